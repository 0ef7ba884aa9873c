/- Part Si of the proof: an abstract machine over the model, and what the functions of the program hand back in its terms. No condition. -/
import Derived.Test.YtjmkolhkojgjpaaGreatDoorSh
import Derived.Test.YtjmkolhkojgjpaaGreatDoorSf
import Derived.Test.YtjmkolhkojgjpaaGreatDoorSc
import Derived.Test.YtjmkolhkojgjpaaGreatDoorSg
import Derived.DeepKeys4
import Derived.Test.YtjmkolhkojgjpaaGreatDoorSe
set_option linter.all false
open List renaming mem_append→zO,mem_singleton→zK,foldl_cons→xB,mem_map→zN,range_succ→w_,take_succ_eq_append_getElem→zJ,length_map→zV,getElem_mem→zG,take_length→zX,getElem?_eq_some_iff→zA,length_cons→yB,length_nil→tg,length_take→yY,take_of_length_le→zM,all_eq_true→zP,getD→yR,drop_length→yS,range→yD,getElem?_map→zQ,ext_getElem?→xA,getElem?_set_self→zH,getElem?_set_ne→zB,getElem?_eq_none→xC,getElem?_eq_getElem→zF,getElem_eq_iff→xF,getElem?_append_right→zC,map_nil→xN,length_filter_le→vE,append_nil→xQ,getElem?_append_left→zE,map_append→yM
open Bool renaming eq_iff_iff→yV,and_eq_true→zR,and_false→tu
open Nat renaming zero_le→xE,le_refl→zI,not_lt_zero→tv
open Prod renaming ext→tG
open Option renaming map_eq_some_iff→zL
set_option maxHeartbeats 8000000
set_option linter.unusedSimpArgs false
set_option maxRecDepth 100000
namespace Go.Abs
def adQ(l:List (Int×Int))(t:Int×Int):List (Int×Int):=if t∈l then l else l++[t]
theorem y1y{l:List (Int×Int)}{t:Int×Int}(h:t∈l):adQ l t=l:=if_pos h
theorem f00{l:List (Int×Int)}{t:Int×Int}(h:t∉l):adQ l t=l++[t]:=if_neg h
theorem v14{l:List (Int×Int)}{t s:Int×Int}:s∈adQ l t↔s∈l∨s=t:=by
 unfold adQ;by_cases h:t∈l
 ·rw[if_pos h];exact⟨.inl,fun k=>k.elim id fun e=>e▸h⟩
 ·rw[if_neg h,zO,zK]
theorem Fp{s:Int×Int}:∀(ys l:List (Int×Int)),s∈ys.foldl adQ l↔s∈l∨s∈ys
 |[],l=>by simp
 |y::ys,l=>by
  rw[xB,Fp ys,v14,List.mem_cons];constructor
  ·rintro((h|h)|h)
   ·exact .inl h
   ·exact .inr (.inl h)
   ·exact .inr (.inr h)
  ·rintro(h|h|h)
   ·exact .inl (.inl h)
   ·exact .inl (.inr h)
   ·exact .inr h
def f05(a b:Aut)(s:Int×Int):List (Int×Int):=(Wx a b).map fun x=>Tf a b s x
def c0h(a b:Aut)(s:Int×Int):List (Int×Int):=(f05 a b s).foldl adQ []
theorem q0n{a b:Aut}{s t:Int×Int}:t∈c0h a b s↔∃e∈Hs a b s,e.2=t:=by
 unfold c0h f05 Hs;rw[Fp];simp only[List.not_mem_nil,false_or,zN];constructor
 ·rintro⟨x,hx,e⟩;exact⟨_,⟨x,hx,rfl⟩,e⟩
 ·rintro⟨e,⟨x,hx,rfl⟩,h⟩;exact⟨x,hx,h⟩
def z2o(a b:Aut):Nat→Nat→List (Int×Int)→List (Int×Int)
 |0,_,l=>l
 |f+1,n,l=>match l[n]? with
  |none=>l
  |some s=>z2o a b f (n+1) ((f05 a b s).foldl adQ l)
end Go.Abs
namespace Go.Abs
open Go Go.Proofs Go.Maps Go.RowKit
attribute [simp] T66 T41
def pqr(s:Int×Int):AV:= .agg [.i s.1,.i s.2]
abbrev LQp (l:List (Int×Int)):AV:= .list (l.map pqr)
theorem y1h(a b c d:Int):eqA T 9 66 (.agg [.int .i64 a,.int .i64 b]) (.agg [.int .i64 c,.int .i64 d])=some (a==c && b==d):=by simp[eqA,I6,Su,TI.agg,w_]
theorem q28(s t:Int×Int):(s.1==t.1 && s.2==t.2)=decide (s=t):=by rw[yV];simp[Prod.ext_iff]
theorem L8{l:List (Int×Int)}{s:Int×Int}{j:Nat}(h:j<l.length):s∈l.take (j+1)↔s∈l.take j∨s=l[j]:=by rw[zJ h,zO,zK]
theorem Lp(l:List (Int×Int))(s:Int×Int):PC Tryz.prog 150 [LQp l,pqr s] (fun r=>r= .bool (decide (s∈l))):=by
 refine Qh tOk Tryz.func150 rfl Tryz.results150 rfl (by simp[Tryz.ntmps150]) ?_;rw[Tryz.ntmps150];simp only[Qe];simp only[pqr];refine Rq 0 rfl (fun hlen=> ?_);rw[zV]at hlen;repeat first|(refine r_ ?_;simp)|refine q_ ?_
 refine Qr l.length (fun j=>s∉l.take j) (fun j=>[(0,.list (l.map pqr)),(3,.vptr 0 0),(4,.bool false),(5,.i j)]) (fun _=>[.vars [.i s.1,.i s.2]]) rfl (by simp) (by simp[pqr]) (by simp) (by simp) (by simp) ?_;intro j hj hI ih;repeat first|(refine r_ ?_;simp)|refine q_ ?_
 refine Qa rfl (fun za=> ?_) (fun zb=> ?_)
 ·have z1:j<l.length:=by simpa using za
  have hw:IntKind.i64.wrap ((j:Int)+1)=j+1:=wrap_i64 _ (by omega) (by omega);have z7:(l.map pqr)[j]? =some (pqr l[j]):=by simp[z1]
  have z8:∀hh,(l.map pqr)[j]'hh=pqr l[j]:=fun hh=>by simp
  have zc:=L8 (s:=s) z1;have zd:l[j]∈l:=zG z1;generalize l[j]=t at *;simp only[pqr]at z7 z8
  repeat first|(refine r_ ?_;simp)|refine q_ ?_
  refine Qj tOk mixed [] (.val 0 (.val 1 (.val 2 (.val 3 (.val 4 (.val 5 (.done))))))) rfl (by kernel_rfl) ?_;simp[z7,z8,z1,y1h];rw[q28];refine Qa rfl (fun h=> ?_) (fun h=> ?_)
  ·have e:t=s:=by simpa using h
   subst e;repeat first|(refine r_ ?_;simp)|refine q_ ?_
   exact zd
  ·have e:t≠s:=by simpa using h
   repeat first|(refine r_ ?_;simp[hw])|refine q_ ?_
   refine Qo _ (ih z1 (fun k=>(zc.1 k).elim hI fun k=>e k.symm)) rfl (by simp) ?_ (by simp) (by simp);simp
 ·have z6:j=l.length:=by simp at zb;omega
  subst z6;rw[zX]at hI;repeat first|(refine r_ ?_;simp)|refine q_ ?_
  exact hI
end Go.Abs
namespace Go.Abs
open Go Go.Proofs Go.Maps Go.RowKit
theorem k0g{L:List (Int×Int)}{j:Nat}{y:Int×Int}(h:L[j]? =some y)(acc:List (Int×Int)):(L.take (j+1)).foldl adQ acc=adQ ((L.take j).foldl adQ acc) y:=by obtain⟨hj,rfl⟩:=zA.1 h;rw[zJ hj,List.foldl_append];rfl
theorem c07(L acc:List (Int×Int)):(L.foldl adQ acc).length≤acc.length+L.length:=by
 induction L generalizing acc with
 |nil=>simp
 |cons x L ih=>
  have:=ih (adQ acc x);have h2:(adQ acc x).length≤acc.length+1:=by unfold adQ;split<;>simp
  rw[xB,yB];omega
attribute [local irreducible] Wx toL
theorem z1d(a b:Aut)(ha:OkA a)(hb:OkA b)(ht:b.types=a.types)(s:Int×Int):PC Tryz.prog 149 [encA a,encA b,pqr s] (fun r=>r=LQp (c0h a b s)):=by
 refine Qh tOk Tryz.func149 rfl Tryz.results149 rfl (by simp[Tryz.ntmps149]) ?_;rw[Tryz.ntmps149];simp only[Qe];simp only[encA,pqr];have zd:=Nk ha hb ht;have ze:∀k (h:k<(Wx a b).length),(f05 a b s)[k]? =some (toL a s.1 (Wx a b)[k],toL b s.2 (Wx a b)[k]):=fun k h=>by unfold f05;simp[Tf,h]
 have zm:(f05 a b s).length=(Wx a b).length:=by unfold f05;simp
 have zf:=fun j y (h:(f05 a b s)[j]? =some y)=>k0g h [];have zg:=fun j=>c07 ((f05 a b s).take j) [];unfold c0h;generalize f05 a b s=Y at *
 repeat first|(refine r_ ?_;simp)|refine q_ ?_
 refine Qc rfl rfl (by simp) (Nr a b ha hb ht) rfl ?_;rintro _ rfl;simp;generalize Wx a b=ls at *
 repeat first|(refine r_ ?_;simp)|refine q_ ?_
 refine Q6 8 66 2 rfl ?_;simp;obtain⟨K,hK⟩:∃K,K=[AObj.vars (Qp a),.vars (Qp b),.vars [.i s.1,.i s.2]]:=⟨_,rfl⟩
 have hst:=SL.start K 66 2;refine Ql (Qb (sl':=[(3,.vptr 0 0),(4,.vptr 1 0),(5,.vptr 2 0),(7,.list (ls.map encSy)),(8,.sl 3 2 0 ((Y.take 0).foldl adQ []).length),(9,.i (0:Nat))]) ?_ (by simp));refine Qm (P:=Tryz.prog) (F:=fun(u:Nat×Nat×List AObj)=>⟨[(3,.vptr 0 0),(4,.vptr 1 0),(5,.vptr 2 0),(7,.list (ls.map encSy)),(8,.sl u.2.1 2 0 ((Y.take u.1).foldl adQ []).length),(9,.i u.1)],u.2.2⟩)
  (fun u=>u.1≤ls.length∧SL K u.2.2 u.2.1 66 2 (((Y.take u.1).foldl adQ []).map pqr)) (fun u=>ls.length - u.1) ?_ (0,3,_) ⟨xE _,by rw[hK]at hst ⊢;simpa using hst⟩
 rintro⟨j,q,G⟩ ⟨hj,g⟩ ih;simp only at hj g ih ⊢;have g0:=g.kp (j:=0) (x:= .vars (Qp a)) (by rw[hK];rfl);have g1:=g.kp (j:=1) (x:= .vars (Qp b)) (by rw[hK];rfl);have g2:=g.kp (j:=2) (x:= .vars [.i s.1,.i s.2]) (by rw[hK];rfl);have zc:=zg j;rw[tg,Nat.zero_add,yY]at zc;repeat first|(refine r_ ?_;simp)|refine q_ ?_
 refine Qa rfl (fun zh=> ?_) (fun zi=> ?_)
 ·have z1:j<ls.length:=by simpa using zh
  have hw:IntKind.i64.wrap ((j:Int)+1)=j+1:=wrap_i64 _ (by omega) (by omega);have zj:=zf j _ (ze j z1);have z6:=fun q' G'=>ih (j+1,q',G');simp only[zj]at z6;have z8:(ls.map encSy)[j]? =some (encSy ls[j]):=by simp[z1]
  have za:∀hh,(ls.map encSy)[j]'hh=encSy ls[j]:=fun hh=>by simp
  generalize ls[j]=x at *
  have cT1:=y1w a ha s.1 x;have cT2:=y1w b hb s.2 x;simp only[encSy,encA]at z8 za cT1 cT2;generalize toL a s.1 x=t1 at *;generalize toL b s.2 x=t2 at *;generalize (Y.take j).foldl adQ []=P at *
  have z7:(P.map pqr).length=P.length:=by simp
  have zb:(P.map pqr).take P.length=P.map pqr:=zM (by simp);repeat first|(refine r_ ?_;simp)|refine q_ ?_
  refine Gh (P:=Tryz.prog) tOk mixed [18] (.val 0 (.val 1 (.val 2 (.val 3 (.val 4 (.val 5 (.val 6 (.val 8 (.val 9 (.val 10 (.val 11 (.val 12 (.val 13 (.val 14 (.two 7 (.two 15 (.val 16 (.one 17 (.one 18 (.done)))) 17 (.one 15 (.val 16 (.one 18 (.done))))) 17 (.one 7 (.one 15 (.val 16 (.one 18 (.done)))))))))))))))))))) (fun S'=>S'.hp=G++[.vars [.i t1,.i t2]]∧look S'.sl 3=some (.vptr 0 0)∧look S'.sl 4=some (.vptr 1 0)∧look S'.sl 5=some (.vptr 2 0)∧look S'.sl 7=some (.list (ls.map encSy))∧look S'.sl 8=some (.sl q 2 0 P.length)∧look S'.sl 9=some (.i j)∧look S'.sl 10=some (.vptr G.length 0)) rfl (by kernel_rfl) ?_ ?_
  ·simp[g0,g1,g2,z8,za,z1]
   repeat' (first
    |refine And.intro ?_ ?_
    |(refine Qc rfl rfl (by simp) cT1 rfl ?_;rintro _ rfl;simp[g0,g1,g2,z8,za,z1])
    |(refine Qc rfl rfl (by simp) cT2 rfl ?_;rintro _ rfl;simp[g0,g1,g2,z8,za,z1]))
  rintro⟨sl,E⟩ ⟨rfl,s3,s4,s5,s7,s8,s9,s10⟩;simp only at s3 s4 s5 s7 s8 s9 s10;simp;refine Q3 (sl':=[(3,.vptr 0 0),(4,.vptr 1 0),(5,.vptr 2 0),(7,.list (ls.map encSy)),(8,.sl q 2 0 P.length),(9,.i j),(10,.vptr G.length 0)]) ?_ (by simp[s3,s4,s5,s7,s8,s9,s10]);have gA:=fun M=>Qd g.arr M;repeat first|(refine r_ ?_;simp[gA])|refine q_ ?_
  refine Yg rfl rfl (by first|(simp[gA,zb,z7];done)|(simp[gA,zb,z7];rfl)) (Lp P (t1,t2)) rfl ?_;rintro _ rfl;refine⟨by first|simp|rfl|trivial,?_⟩;simp[gA,zb,z7];by_cases hm:(t1,t2)∈P
  ·rw[y1y hm]at z6;refine Qa rfl (fun h=>by simp[hm]at h) (fun _=> ?_);repeat first|(refine r_ ?_;simp[hw])|refine q_ ?_
   refine Qb (sl':=[(3,.vptr 0 0),(4,.vptr 1 0),(5,.vptr 2 0),(7,.list (ls.map encSy)),(8,.sl q 2 0 P.length),(9,.i (j+1:Nat))]) ?_ (by simp);exact z6 q _ ⟨by omega,g.add _⟩ (by omega)
  ·rw[f00 hm]at z6;refine Qa rfl (fun _=> ?_) (fun h=>by simp[hm]at h);repeat first|(refine r_ ?_;simp)|refine q_ ?_
   refine Qf tOk rfl rfl T41 rfl T66 rfl (by decide) (by decide) rfl rfl rfl ?_;simp[Qd g.arr,Qk g.arr,z7];refine⟨by simp[Wu,Qd g.arr,Qk g.arr,z7]<;>omega,?_⟩;repeat first|(refine r_ ?_;simp[hw])|refine q_ ?_
   refine Qb (sl':=[(3,.vptr 0 0),(4,.vptr 1 0),(5,.vptr 2 0),(7,.list (ls.map encSy)),(8,.sl (G.length+2) 2 0 (P++[(t1,t2)]).length),(9,.i (j+1:Nat))]) ?_ (by simp);have:=z6 (G.length+2) _ ⟨by omega,g.put [AObj.vars [.i t1,.i t2],AObj.arr 66 2 [pqr (t1,t2)]] ((P++[(t1,t2)]).map pqr) rfl⟩ (by omega);simpa[pqr]using this
 ·have zk:j=ls.length:=by simp at zi;omega
  subst zk;have zl:Y.take ls.length=Y:=zM (by omega);rw[zl]at g zc ⊢;have ga:=g.arr;repeat first|(refine r_ ?_;simp[ga])|refine q_ ?_
  rw[zM (by simp)]
end Go.Abs
namespace Go.Abs
open Go Go.Proofs Go.Maps Go.RowKit
structure QInv (a b:Aut) (l:List (Int×Int)):Prop where
 nd:l.Nodup
 rg:∀s∈l,inD a s.1∧inD b s.2
theorem f1t(l:List (Int×Int)):(Tn l).length=l.length:=(List.mergeSort_perm l pLe).length_eq
attribute [local irreducible] Wx toL c0h z2o Tn
end Go.Abs
namespace Go.Abs
open Go Go.Proofs Go.Maps Go.RowKit
attribute [simp] T43
theorem w1d(a b:Aut):PC Tryz.prog 40 [encA a,encA b] (fun r=>r= .i (Eo a b)):=by
 refine Qh tOk Tryz.func40 rfl Tryz.results40 rfl (by simp[Tryz.ntmps40]) ?_;rw[Tryz.ntmps40];simp only[Qe];have cA:=Sv a;have cB:=Sv b;simp only[encA]at cA cB ⊢;obtain⟨R,hR⟩:∃R,Eo a b=R:=⟨_,rfl⟩
 rw[hR];unfold Eo at hR;repeat first|(refine r_ ?_;simp)|refine q_ ?_
 refine Qc rfl rfl (by simp) (cA) rfl ?_;rintro _ rfl;simp;repeat first|(refine r_ ?_;simp)|refine q_ ?_
 refine Qa rfl (fun h=> ?_) (fun h=> ?_)
 ·rw[if_pos (by simpa using h)]at hR;repeat first|(refine r_ ?_;simp)|refine q_ ?_
  exact hR
 rw[if_neg (by simpa using h)]at hR;repeat first|(refine r_ ?_;simp)|refine q_ ?_
 refine Qc rfl rfl (by simp) (cB) rfl ?_;rintro _ rfl;simp;repeat first|(refine r_ ?_;simp)|refine q_ ?_
 refine Qa rfl (fun h2=> ?_) (fun h2=> ?_)
 ·rw[if_pos (by simpa using h2)]at hR;repeat first|(refine r_ ?_;simp)|refine q_ ?_
  exact hR
 rw[if_neg (by simpa using h2)]at hR;repeat first|(refine r_ ?_;simp)|refine q_ ?_
 refine Qa rfl (fun h3=> ?_) (fun h3=> ?_)
 ·rw[if_pos (by simpa using h3)]at hR;subst hR;repeat first|(refine r_ ?_;simp)|refine q_ ?_
 ·rw[if_neg (by simpa using h3)]at hR;subst hR;repeat first|(refine r_ ?_;simp)|refine q_ ?_
attribute [local irreducible] Eo Tl
theorem c0f(a b:Aut):PC Tryz.prog 80 [encA a,encA b] (fun r=>r= .i (E8 a b)):=by
 refine Qh tOk Tryz.func80 rfl Tryz.results80 rfl (by simp[Tryz.ntmps80]) ?_;rw[Tryz.ntmps80];simp only[Qe];have cB:=w1d a b;have cF:=N4 a;have cG:=N4 b;simp only[encA]at cB cF cG ⊢;obtain⟨R,hR⟩:∃R,E8 a b=R:=⟨_,rfl⟩
 rw[hR];unfold E8 at hR;repeat first|(refine r_ ?_;simp)|refine q_ ?_
 refine Qc rfl rfl (by simp) (cB) rfl ?_;rintro _ rfl;simp;repeat first|(refine r_ ?_;simp)|refine q_ ?_
 refine Qa rfl (fun h=> ?_) (fun h=> ?_)
 ·have h':Eo a b≠0:=by simpa using h
  rw[if_pos h']at hR;repeat first|(refine r_ ?_;simp)|refine q_ ?_
  exact hR
 have h':¬Eo a b≠0:=by simpa using h
 rw[if_neg h']at hR;repeat first|(refine r_ ?_;simp)|refine q_ ?_
 by_cases h1:Tl a=0
 ·refine Qc rfl rfl (by simp) (cF) rfl ?_;rintro _ rfl;simp[h1];by_cases h2:Tl b=0
  ·rw[if_neg (by simp[h1,h2])]at hR;subst hR;refine Qc rfl rfl (by simp) (cG) rfl ?_;rintro _ rfl;simp[h2];repeat first|(refine r_ ?_;simp[h2])|refine q_ ?_
   refine Qa rfl (fun h=>by simp at h) (fun _=> ?_);repeat first|(refine r_ ?_;simp)|refine q_ ?_
  ·rw[if_pos (.inr h2)]at hR;subst hR;have z1:(Tl b != 0)=true:=by simpa using h2
   refine Qc rfl rfl (by simp) (cG) rfl ?_;rintro _ rfl;simp[z1];repeat first|(refine r_ ?_;simp[z1])|refine q_ ?_
   refine Qa rfl (fun _=> ?_) (fun h=>by simp at h);repeat first|(refine r_ ?_;simp)|refine q_ ?_
 ·rw[if_pos (.inl h1)]at hR;subst hR;have z6:(Tl a != 0)=true:=by simpa using h1
  refine Qc rfl rfl (by simp) (cF) rfl ?_;rintro _ rfl;simp[z6];refine Qx rfl rfl ?_;simp;repeat first|(refine r_ ?_;simp[z6])|refine q_ ?_
  refine Qa rfl (fun _=> ?_) (fun h=>by simp at h);repeat first|(refine r_ ?_;simp)|refine q_ ?_
def y15(a b:Aut)(l:List (Int×Int))(s:Int×Int):Bool:=Ld a b s && (c0h a b s).all fun t=>decide (t∈l)
theorem j1w(a b:Aut)(l:List (Int×Int)):Pd a b l=(decide ((0,0)∈l) && l.all (y15 a b l)):=by
 unfold Pd
 congr 1
 congr 1
 funext s;unfold y15
 congr 1
 rw[yV,zP,zP];constructor
 ·intro h t ht;obtain⟨e,he,rfl⟩:=q0n.1 ht;exact h e he
 ·intro h e he;exact h _ (q0n.2 ⟨e,he,rfl⟩)
theorem P6{α:Type}{p:α→Bool}{l:List α}{j:Nat}(h:j<l.length)(h1:(l.take j).all p=true):(l.take (j+1)).all p=p l[j]:=by rw[zJ h,List.all_append,h1];simp
theorem all_false{α:Type}{p:α→Bool}{l:List α}{j:Nat}(h:j<l.length)(h1:p l[j]=false):l.all p=false:=by rw[List.all_eq_false];exact⟨_,zG h,by rw[h1];simp⟩
attribute [local irreducible] c0h Ld
theorem y0q(a b:Aut)(ha:OkA a)(hb:OkA b)(ht:b.types=a.types)(l:List (Int×Int))(hl:∀s∈l,inS a s.1∧inS b s.2):PC Tryz.prog 85 [encA a,encA b,LQp l] (fun r=>r= .bool (Pd a b l)):=by
 refine Qh tOk Tryz.func85 rfl Tryz.results85 rfl (by simp[Tryz.ntmps85]) ?_;rw[Tryz.ntmps85];simp only[Qe];simp only[encA];refine Rq 2 rfl (fun hlen=> ?_);rw[zV]at hlen;rw[j1w];have cZ:=Lp l (0,0);simp only[pqr]at cZ;repeat first|(refine r_ ?_;simp)|refine q_ ?_
 by_cases h0:((0,0):Int×Int)∈l
 case neg=>
  rw[decide_eq_false h0,Bool.false_and];refine Qc rfl rfl (by simp) (cZ) rfl ?_;rintro _ rfl;simp[h0];repeat first|(refine r_ ?_;simp)|refine q_ ?_
  refine Qa rfl (fun _=> ?_) (fun h=>by simp at h);repeat first|(refine r_ ?_;simp)|refine q_ ?_
 rw[decide_eq_true h0,Bool.true_and];refine Qc rfl rfl (by simp) (cZ) rfl ?_;rintro _ rfl;simp[h0];repeat first|(refine r_ ?_;simp)|refine q_ ?_
 refine Qa rfl (fun h=>by simp at h) (fun _=> ?_);repeat first|(refine r_ ?_;simp)|refine q_ ?_
 refine Qr l.length (fun j=>(l.take j).all (y15 a b l)=true) (fun j=>[(2,LQp l),(3,.vptr 0 0),(4,.vptr 1 0),(7,.i j)]) (fun _=>[.vars (Qp a),.vars (Qp b)]) rfl (by simp) (by simp) (by simp) (by simp) (by simp) ?_;intro n hn hI ih;repeat first|(refine r_ ?_;simp)|refine q_ ?_
 refine Qa rfl (fun zn=> ?_) (fun zo=> ?_)
 ·have z1:n<l.length:=by simpa using zn
  have hw:IntKind.i64.wrap ((n:Int)+1)=n+1:=wrap_i64 _ (by omega) (by omega);have za:(l.map pqr)[n]? =some (pqr l[n]):=by simp[z1]
  have zb:∀hh,(l.map pqr)[n]'hh=pqr l[n]:=fun hh=>by simp
  have zl:=P6 z1 hI;have zc:=all_false (p:=y15 a b l) z1;obtain⟨zd,ze⟩:=hl _ (zG z1);generalize l[n]=e at *
  obtain⟨s,t⟩:=e;simp only at zd ze;obtain⟨i,rfl⟩:∃i:Nat,s=i:=⟨s.toNat,(k0s zd).2.symm⟩
  obtain⟨k,rfl⟩:∃k:Nat,t=k:=⟨t.toNat,(k0s ze).2.symm⟩
  have hi:i<a.fin.length:=by have:=zd.2;omega
  have hk:k<b.fin.length:=by have:=ze.2;omega
  have zm:Ld a b ((i:Int),(k:Int))=(a.fin[i]==b.fin[k]):=by unfold Ld;simp[yR,hi,hk]
  have cS:=z1d a b ha hb ht ((i:Int),(k:Int));simp only[pqr,encA]at za zb cS;repeat first|(refine r_ ?_;simp)|refine q_ ?_
  refine Qj tOk mixed [] (.val 0 (.val 1 (.val 2 (.val 3 (.val 4 (.val 5 (.val 6 (.val 7 (.val 8 (.val 9 (.val 10 (.val 11 (.val 12 (.val 13 (.val 14 (.val 15 (.val 16 (.val 17 (.val 18 (.done)))))))))))))))))))) rfl (by kernel_rfl) ?_;simp[za,zb,z1,hi,hk];refine Qa rfl (fun hd=> ?_) (fun hd=> ?_)
  ·have hf:y15 a b l ((i:Int),(k:Int))=false:=by
    unfold y15;rw[zm];have:(a.fin[i]==b.fin[k])=false:=by simpa using hd
    rw[this];rfl
   rw[zc hf];repeat first|(refine r_ ?_;simp)|refine q_ ?_
  ·have hf:y15 a b l ((i:Int),(k:Int))=(c0h a b ((i:Int),(k:Int))).all fun t=>decide (t∈l):=by
    unfold y15;rw[zm];have:(a.fin[i]==b.fin[k])=true:=by simpa using hd
    rw[this];rfl
   rw[hf]at zl zc;generalize c0h a b ((i:Int),(k:Int))=Y at *
   repeat first|(refine r_ ?_;simp)|refine q_ ?_
   refine Qj tOk mixed [] (.val 0 (.val 1 (.val 2 (.val 3 (.val 4 (.val 5 (.one 6 (.val 7 (.done))))))))) rfl (by kernel_rfl) ?_;simp[za,zb,z1];refine Qc rfl rfl (by simp) (cS) rfl ?_;rintro _ rfl;simp[za,zb,z1];repeat first|(refine r_ ?_;simp)|refine q_ ?_
   refine Rq 8 rfl (fun zp=> ?_);rw[zV]at zp;refine Qr Y.length (fun j=>(Y.take j).all (fun t=>decide (t∈l))=true) (fun j=>[(2,LQp l),(3,.vptr 0 0),(4,.vptr 1 0),(7,.i n),(8,LQp Y),(9,.i j)]) (fun _=>[.vars (Qp a),.vars (Qp b)]) rfl (by simp) (by simp) (by simp) (by simp) (by simp) ?_;intro j hj zf zq;repeat first|(refine r_ ?_;simp)|refine q_ ?_
   refine Qa rfl (fun zg=> ?_) (fun zh=> ?_)
   ·have z6:j<Y.length:=by simpa using zg
    have zr:IntKind.i64.wrap ((j:Int)+1)=j+1:=wrap_i64 _ (by omega) (by omega);have zi:=P6 z6 zf;have zj:=all_false (p:=fun t=>decide (t∈l)) z6;have z7:(Y.map pqr)[j]? =some (pqr Y[j]):=by simp[z6]
    have z8:∀hh,(Y.map pqr)[j]'hh=pqr Y[j]:=fun hh=>by simp
    generalize Y[j]=t at *;simp only[pqr]at z7 z8
    repeat first|(refine r_ ?_;simp[z7,z8,z6])|refine q_ ?_
    by_cases hm:t∈l
    ·refine Qc rfl rfl (by simp) (Lp l t) rfl ?_;rintro _ rfl;simp[hm];repeat first|(refine r_ ?_;simp)|refine q_ ?_
     refine Qa rfl (fun h=>by simp at h) (fun _=> ?_);repeat first|(refine r_ ?_;simp[zr])|refine q_ ?_
     refine Qo _ (zq z6 (by rw[zi];simpa using hm)) rfl (by simp) ?_ (by simp) (by simp);simp
    ·refine Qc rfl rfl (by simp) (Lp l t) rfl ?_;rintro _ rfl;simp[hm];repeat first|(refine r_ ?_;simp)|refine q_ ?_
     refine Qa rfl (fun _=> ?_) (fun h=>by simp at h);rw[zc (zj (by simpa using hm))];repeat first|(refine r_ ?_;simp)|refine q_ ?_
   ·have zt:j=Y.length:=by simp at zh;omega
    subst zt;rw[zX]at zf;repeat first|(refine r_ ?_;simp[hw])|refine q_ ?_
    refine Qo _ (ih z1 (by rw[zl];exact zf)) rfl (by simp) ?_ (by simp) (by simp);simp
 ·have zk:n=l.length:=by simp at zo;omega
  subst zk;rw[zX]at hI;rw[hI];repeat first|(refine r_ ?_;simp)|refine q_ ?_
def Hl(x:EqC):AV:= .agg [.i x.verdict,LQp x.pairs,LSy x.word]
def Z9(a b:Aut)(x:EqC):Int:=if 2048<x.pairs.length∨4096<x.word.length then 5 else if x.pairs.all (fun s=>decide (inS a s.1∧inS b s.2))=false then 6 else Z7 a.types x.word
theorem Ze(n:Nat)(z:Int):(z<0∧¬(0≤z∧z<(n:Int)))∨(¬z<0∧(n:Int)≤z∧¬(0≤z∧z<(n:Int)))∨(¬z<0∧¬(n:Int)≤z∧(0≤z∧z<(n:Int))):=by omega
attribute [local irreducible] Az
theorem x0s(a b:Aut)(x:EqC):PC Tryz.prog 84 [encA a,encA b,Hl x] (fun r=>r= .i (Z9 a b x)):=by
 refine Qh tOk Tryz.func84 rfl Tryz.results84 rfl (by simp[Tryz.ntmps84]) ?_;rw[Tryz.ntmps84];simp only[Qe];simp only[encA,Hl];refine Wd 2 1 rfl rfl (fun zh=> ?_);refine Wd 2 2 rfl rfl (fun zi=> ?_);refine Wd 0 1 rfl rfl (fun zj=> ?_);refine Wd 1 1 rfl rfl (fun zk=> ?_);rw[zV]at zh zi zj zk;obtain⟨v,ps,w⟩:=x;simp only at zh zi ⊢;obtain⟨R,hR⟩:∃R,Z9 a b ⟨v,ps,w⟩=R:=⟨_,rfl⟩
 rw[hR];unfold Z9 at hR;simp only at hR;by_cases h1:2048<ps.length
 ·rw[if_pos (.inl h1)]at hR;subst hR;have d1:decide ((2048:Int)<ps.length)=true:=by simp;omega
  repeat first|(refine r_ ?_;simp[d1])|refine q_ ?_
  refine Qa rfl (fun _=> ?_) (fun h=>by first|(simp at h;done)|(simp at h;omega));repeat first|(refine r_ ?_;simp)|refine q_ ?_
 have d1:decide ((2048:Int)<ps.length)=false:=by simp;omega
 by_cases h2:4096<w.length
 ·rw[if_pos (.inr h2)]at hR;subst hR;repeat first|(refine r_ ?_;simp[d1])|refine q_ ?_
  refine Qa rfl (fun _=> ?_) (fun h=>by first|(simp at h;done)|(simp at h;omega));repeat first|(refine r_ ?_;simp)|refine q_ ?_
 rw[if_neg (by omega)]at hR;repeat first|(refine r_ ?_;simp[d1])|refine q_ ?_
 refine Qa rfl (fun h=>by first|(simp at h;done)|(simp at h;omega)) (fun _=> ?_);repeat first|(refine r_ ?_;simp)|refine q_ ?_
 refine Qr ps.length (fun j=>(ps.take j).all (fun s=>decide (inS a s.1∧inS b s.2))=true) (fun j=>[(3,.vptr 0 0),(4,.vptr 1 0),(5,.vptr 2 0),(7,.i j)]) (fun _=>[.vars (Qp a),.vars (Qp b),.vars [.i v,LQp ps,LSy w]]) rfl (by simp) (by simp) (by simp) (by simp) (by simp) ?_;intro n hn hI ih;repeat first|(refine r_ ?_;simp)|refine q_ ?_
 refine Qa rfl (fun zl=> ?_) (fun zm=> ?_)
 ·have z6:n<ps.length:=by simpa using zl
  have hw:IntKind.i64.wrap ((n:Int)+1)=n+1:=wrap_i64 _ (by omega) (by omega);have z8:(ps.map pqr)[n]? =some (pqr ps[n]):=by simp[z6]
  have za:∀hh,(ps.map pqr)[n]'hh=pqr ps[n]:=fun hh=>by simp
  have zc:=P6 z6 hI;have zb:=all_false (p:=fun s:Int×Int=>decide (inS a s.1∧inS b s.2)) z6;generalize ps[n]=s at *
  obtain⟨p,q⟩:=s;simp only[pqr]at z8 za;simp only at zc zb;have zd:∀x y:Int,decide (inS a x∧inS b y)=(decide (0≤x∧x<(a.fin.length:Int)) && decide (0≤y∧y<(b.fin.length:Int))):=fun x y=>by unfold inS;rw[yV,zR,decide_eq_true_eq,decide_eq_true_eq,decide_eq_true_eq]
  rw[zd]at zc zb;repeat first|(refine r_ ?_;simp[z8,za,z6])|refine q_ ?_
  rcases Ze a.fin.length p with⟨c1,c2⟩|⟨c1,c2,c3⟩|⟨c1,c2,c3⟩
  ·have hf:(decide (0≤p∧p<(a.fin.length:Int)) && decide (0≤q∧q<(b.fin.length:Int)))=false:=by rw[decide_eq_false c2];rfl
   have e1:decide (p<0)=true:=by simpa using c1
   repeat first|(refine r_ ?_;simp[e1])|refine q_ ?_
   refine Qa rfl (fun _=> ?_) (fun h=>by first|(simp at h;done)|(simp at h;omega));rw[zb hf]at hR;rw[if_pos rfl]at hR;subst hR;repeat first|(refine r_ ?_;simp)|refine q_ ?_
  ·have hf:(decide (0≤p∧p<(a.fin.length:Int)) && decide (0≤q∧q<(b.fin.length:Int)))=false:=by rw[decide_eq_false c3];rfl
   have e1:decide (p<0)=false:=by simpa using c1
   have e2:decide ((a.fin.length:Int)≤p)=true:=by simpa using c2
   repeat first|(refine r_ ?_;simp[e1,e2])|refine q_ ?_
   refine Qa rfl (fun _=> ?_) (fun h=>by first|(simp at h;done)|(simp at h;omega));rw[zb hf]at hR;rw[if_pos rfl]at hR;subst hR;repeat first|(refine r_ ?_;simp)|refine q_ ?_
  ·have e1:decide (p<0)=false:=by simpa using c1
   have e2:decide ((a.fin.length:Int)≤p)=false:=by simpa using c2
   rcases Ze b.fin.length q with⟨k1,k2⟩|⟨k1,k2,k3⟩|⟨k1,k2,k3⟩
   ·have hf:(decide (0≤p∧p<(a.fin.length:Int)) && decide (0≤q∧q<(b.fin.length:Int)))=false:=by rw[decide_eq_false k2,tu]
    have e3:decide (q<0)=true:=by simpa using k1
    repeat first|(refine r_ ?_;simp[e1,e2,e3])|refine q_ ?_
    refine Qa rfl (fun _=> ?_) (fun h=>by first|(simp at h;done)|(simp at h;omega));rw[zb hf]at hR;rw[if_pos rfl]at hR;subst hR;repeat first|(refine r_ ?_;simp)|refine q_ ?_
   ·have hf:(decide (0≤p∧p<(a.fin.length:Int)) && decide (0≤q∧q<(b.fin.length:Int)))=false:=by rw[decide_eq_false k3,tu]
    have e3:decide (q<0)=false:=by simpa using k1
    have e4:decide ((b.fin.length:Int)≤q)=true:=by simpa using k2
    repeat first|(refine r_ ?_;simp[e1,e2,e3,e4])|refine q_ ?_
    refine Qa rfl (fun _=> ?_) (fun h=>by first|(simp at h;done)|(simp at h;omega));rw[zb hf]at hR;rw[if_pos rfl]at hR;subst hR;repeat first|(refine r_ ?_;simp)|refine q_ ?_
   ·have e3:decide (q<0)=false:=by simpa using k1
    have e4:decide ((b.fin.length:Int)≤q)=false:=by simpa using k2
    repeat first|(refine r_ ?_;simp[e1,e2,e3,e4])|refine q_ ?_
    refine Qa rfl (fun h=>by first|(simp at h;done)|(simp at h;omega)) (fun _=> ?_);repeat first|(refine r_ ?_;simp[hw])|refine q_ ?_
    refine Qo _ (ih z6 (by rw[zc,decide_eq_true c3,decide_eq_true k3];rfl)) rfl (by simp) ?_ (by simp) (by simp);simp
 ·have ze:n=ps.length:=by simp at zm;omega
  subst ze;rw[zX]at hI;rw[hI,if_neg (by simp)]at hR;clear ih;repeat first|(refine r_ ?_;simp)|refine q_ ?_
  refine Qr w.length (fun j=>Z7 a.types (w.drop j)=R) (fun j=>[(3,.vptr 0 0),(4,.vptr 1 0),(5,.vptr 2 0),(9,.i j)]) (fun _=>[.vars (Qp a),.vars (Qp b),.vars [.i v,LQp ps,LSy w]]) rfl (by simp) (by simp) (by simp) (by simp) (by simpa using hR) ?_;intro j hj z7 zn;repeat first|(refine r_ ?_;simp)|refine q_ ?_
  refine Qa rfl (fun zf=> ?_) (fun zg=> ?_)
  ·have z1:j<w.length:=by simpa using zf
   have zo:IntKind.i64.wrap ((j:Int)+1)=j+1:=wrap_i64 _ (by omega) (by omega);rw[Wo z1,Z7]at z7;have z8:(w.map encSy)[j]? =some (encSy w[j]):=by simp[z1]
   have za:∀hh,(w.map encSy)[j]'hh=encSy w[j]:=fun hh=>by simp
   generalize w[j]=y at *
   have cC:=w1w a.types y;simp only[encSy]at z8 za cC;repeat first|(refine r_ ?_;simp)|refine q_ ?_
   refine Qj tOk mixed [] (.val 0 (.val 1 (.val 2 (.val 3 (.val 4 (.val 5 (.val 6 (.one 7 (.val 8 (.done)))))))))) rfl (by kernel_rfl) ?_;simp[z8,za,z1];refine Qc rfl rfl (by simp) (cC) rfl ?_;rintro _ rfl;simp[z8,za,z1];repeat first|(refine r_ ?_;simp)|refine q_ ?_
   refine Qa rfl (fun h=> ?_) (fun h=> ?_)
   ·rw[if_pos (by simpa using h)]at z7;subst z7;repeat first|(refine r_ ?_;simp)|refine q_ ?_
   ·rw[if_neg (by simpa using h)]at z7;repeat first|(refine r_ ?_;simp[zo])|refine q_ ?_
    refine Qo _ (zn z1 z7) rfl (by simp) ?_ (by simp) (by simp);simp
  ·have zp:j=w.length:=by simp at zg;omega
   subst zp;rw[yS]at z7;subst z7;repeat first|(refine r_ ?_;simp)|refine q_ ?_
   rfl
end Go.Abs
namespace Go.Abs
open Go Go.Proofs
def z2w(n:Nat)(l:List Int):Prop:=(Wp n).filter (fun z=>decide (z∈l))=l
def c14(n:Nat)(l:List Int):List AV:=T8 n fun z=>decide (z∈l)
def x2t(n:Nat)(l m:List Int):Bool:=decide (∀i:Nat,i<n→decide ((i:Int)∈l)=decide ((i:Int)∈m))
abbrev SQ:=SS×List Sy
structure SInv (na nb:Nat) (P Q:List (List Int)) (L:List SQ):Prop where
 nd:(L.map (·.1)).Nodup
 mem:∀e∈L,e.1∈Hh P Q
 can:∀e∈L,z2w na e.1.1∧z2w nb e.1.2
structure SPQ (a b:Aut) (P Q:List (List Int)):Prop where
 lim:(P.length+1) * (Q.length+1)≤66049
 fst:(([0]:List Int),([0]:List Int))∈Hh P Q
 step:∀s∈Hh P Q,∀x,Wy a x→Xz a b s x∈Hh P Q
end Go.Abs
namespace Go.Abs
open Go Go.Proofs Go.Maps Go.RowKit
attribute [simp] y26 x2b
def y20(na nb:Nat)(e:SQ):AV:= .agg [.list (c14 na e.1.1),.list (c14 nb e.1.2),.list (e.2.map encSy)]
attribute [local irreducible] c14
attribute [local irreducible] Eo Ro
end Go.Abs
namespace Go.Abs
open Go Go.Proofs Go.Maps Go.RowKit
def WL(L:List SQ):Prop:=∀(i:Nat) (e:SQ),L[i]? =some e→e.2.length≤i
def wnE(either:Bool):Bool→Bool→Bool:=if either then neB else y1v
attribute [local irreducible] Wx Q0 Jf Ei C0 Is c14 wnE x1c
end Go.Abs
namespace Go.Abs
open Go Go.Proofs Go.Maps Go.RowKit
def k16(lo hi:Int):Prd:=[[⟨lo,hi⟩]]
def exA:Aut:=⟨1,[false,false,true],[⟨0,0,k16 (-1099511627776) 1099511627776⟩,⟨0,1,k16 5 1099511627776⟩,⟨1,2,k16 (-1099511627776) 7⟩]⟩
def x2d(l:List Int):List Sy:=l.map fun n=>⟨0,n⟩
def z2m(a:Aut)(w:List Sy):Bool:=w1y a && decide (w.length≤12) && (f06 a w).2==0
end Go.Abs
namespace Go.Abs
open Go Go.Proofs Go.Maps Go.RowKit
end Go.Abs
namespace Go.Abs
open Go Go.Proofs Go.Maps Go.RowKit
def y2r(a b:Aut):EqC×Int:=if E8 a b≠0 then(u1w,E8 a b)else match (Dl a b 0 0).1 with
 |some w=>(⟨2,[],w⟩,0)
 |none=>(⟨1,Tn (Cn a b),[]⟩,0)
def y2m(a b:Aut):(List Sy×Bool)×Int:=if Tj a b≠0 then(([],false),Tj a b)else match (x1c a b y1v).1 with
 |some w=>((w,false),0)
 |none=>(([],true),0)
def y2o(a b:Aut):(List Sy×Bool)×Int:=if Tj a b≠0 then(([],false),Tj a b)else match (x1c a b neB).1 with
 |some w=>((w,true),0)
 |none=>(([],false),0)
def z2x(r:EqC×Int):AV:= .tup [Hl r.1,.i r.2]
def z2j(r:(List Sy×Bool)×Int):AV:= .tup [LSy r.1.1,.bool r.1.2,.i r.2]
attribute [local irreducible] E8 Dl Tn Cn Eo Tj x1c Ro
end Go.Abs
namespace Go.Abs
open Go Go.Proofs Go.Maps Go.RowKit
theorem d1k(a b a' b':Int):eqA T 9 52 (.agg [.int .i64 a,.int .i64 b]) (.agg [.int .i64 a',.int .i64 b'])=some (a==a' && b==b'):=by simp[eqA,Yu,Su,TI.agg]
theorem x1z{a b:List Sy}{j:Nat}(h1:j<a.length)(h2:j<b.length)(h:a.take j=b.take j)(e:a[j]=b[j]):a.take (j+1)=b.take (j+1):=by rw[zJ h1,zJ h2,h,e]
theorem Jb(a b:List Sy):PC Tryz.prog 26 [LSy a,LSy b] (fun r=>r= .bool (decide (a=b))):=by
 refine Qh tOk Tryz.func26 rfl Tryz.results26 rfl (by simp[Tryz.ntmps26]) ?_;rw[Tryz.ntmps26];simp only[Qe];refine Rq 0 rfl (fun hlen=> ?_);rw[zV]at hlen;repeat first|(refine r_ ?_;simp)|refine q_ ?_
 refine Qa rfl (fun h=> ?_) (fun h1=> ?_)
 ·repeat first|(refine r_ ?_;simp)|refine q_ ?_
  rintro rfl;simp at h
 have hl:a.length=b.length:=by simp at h1;omega
 repeat first|(refine r_ ?_;simp)|refine q_ ?_
 refine Qr a.length (fun j=>a.take j=b.take j) (fun j=>[(0,LSy a),(1,LSy b),(12,.i a.length),(13,.i j)]) (fun _=>[]) rfl (by simp) (by simp) (by simp) (by simp) (by simp) ?_;intro j hj hI ih;repeat first|(refine r_ ?_;simp)|refine q_ ?_
 refine Qa rfl (fun z8=> ?_) (fun za=> ?_)
 ·have z1:j<a.length:=by simpa using z8
  have z6:j<b.length:=by omega
  repeat first|(refine r_ ?_;simp)|refine q_ ?_
  refine Qj tOk mixed [] (.val 0 (.val 1 (.val 2 (.val 3 (.val 4 (.val 5 (.val 6 (.val 7 (.val 8 (.done)))))))))) rfl (by kernel_rfl) ?_;simp[z1,z6,d1k];refine Qa rfl (fun h=> ?_) (fun h=> ?_)
  ·repeat first|(refine r_ ?_;simp)|refine q_ ?_
   rintro rfl;simp at h
  ·repeat first|(refine r_ ?_;simp)|refine q_ ?_
   have he:a[j]=b[j]:=by
    have h2:a[j].ty=b[j].ty∧a[j].num=b[j].num:=by simpa using h
    cases ha:a[j];cases hb:b[j];rw[ha,hb]at h2;simp only at h2;rw[h2.1,h2.2]
   refine Qo _ (ih z1 (x1z z1 z6 hI he)) rfl (by simp) ?_ (by simp) (by simp);simp;exact wrap_i64 _ (by omega) (by omega)
 ·have z7:j=a.length:=by simp at za;omega
  subst z7;repeat first|(refine r_ ?_;simp)|refine q_ ?_
  rw[zM (zI _),zM (by omega)]at hI;exact hI
end Go.Abs
namespace Go.Abs
open Go Go.Proofs Go.Maps Go.RowKit
theorem Kw(lo hi:Int):PC Tryz.prog 145 [.i lo,.i hi] (fun r=>r=encP [[⟨lo,hi⟩]]):=by refine Qh tOk Tryz.func145 rfl Tryz.results145 rfl (by simp[Tryz.ntmps145]) ?_;rw[Tryz.ntmps145];simp only[Qe];refine W8 (En tOk rfl ?_);simp;refine W8 (En tOk rfl ?_);simp;refine Gk 1 (e:=144) (c:=2) (xs:=[encIv ⟨lo,hi⟩]) rfl 2 (o0:= .va 145 1 [.sl 1 2 0 1]) rfl (by decide) rfl ?_;simp[AObj.fz,AV.fz];refine P1 2 rfl (by simp[AV.cells,AV.pure]) ?_;simp;refine Ws 2 (e:=145) (c:=1) (xs:=[encL [⟨lo,hi⟩]]) rfl 0 rfl ?_;simp;repeat first|(refine r_ ?_;simp)|refine q_ ?_
theorem Bb:PC Tryz.prog 79 [] (fun r=>r= .tup [encA exQ,encA exR]):=by
 refine Qh tOk Tryz.func79 rfl Tryz.results79 rfl (by simp[Tryz.ntmps79]) ?_;rw[Tryz.ntmps79];simp only[Qe];have z1:yD 2=[0,1]:=rfl;have z6:yD 4=[0,1,2,3]:=rfl;repeat first|(refine r_ ?_;simp[z1,z6])|refine q_ ?_
 refine Qc rfl rfl (by simp) (Kw (-1099511627776) 1099511627776) rfl ?_;rintro _ rfl;simp[z1,z6];refine Qc rfl rfl (by simp) (Kw (-1099511627776) 4) rfl ?_;rintro _ rfl;simp[z1,z6];refine Qc rfl rfl (by simp) (Kw 5 1099511627776) rfl ?_;rintro _ rfl;simp[z1,z6];repeat first|(refine r_ ?_;simp[z1,z6])|refine q_ ?_
 refine Q3 (sl':=[(0,.vptr 0 0),(1,.vptr 1 0),(5,.vptr 7 0),(6,.vptr 10 0)]) ?_ (by simp);refine Ws 5 (e:=4) (c:=1) (xs:=[.bool false,.bool true]) rfl 7 rfl ?_;simp;refine Ws 8 (e:=4) (c:=1) (xs:=[.bool false,.bool true]) rfl 10 rfl ?_;simp;refine Ws 6 (e:=73) (c:=3) (xs:=exQ.mv.map encMv) rfl 7 rfl ?_;have z7:exQ.mv.length=2:=rfl;have z8:exR.mv.length=4:=rfl;simp[z7];refine Ws 9 (e:=73) (c:=3) (xs:=exR.mv.map encMv) rfl 10 rfl ?_;simp[z8];rw[zM (by simp[z7]),zM (by simp[z8])];refine Gg tOk mixed [2,3] (.val 0 (.two 1 (.one 2 (.one 3 (.done))) 2 (.val 1 (.one 3 (.done))))) rfl (by kernel_rfl) ?_;simp;repeat first|(refine r_ ?_;simp)|refine q_ ?_
 exact⟨⟨rfl,rfl⟩,rfl,rfl⟩
end Go.Abs
namespace Go.Abs
open Go Go.Proofs Go.Maps Go.RowKit
attribute [simp] u13 z29 z2i
theorem Mq:(Tryz.prog).underlying 66=some (.array 2 3):=by kernel_rfl
theorem u1t:(Tryz.prog).underlying 3=some (.int .i64):=by kernel_rfl
theorem Mo:(Tryz.prog).cellsOf 66=2:=by kernel_rfl
theorem g06:(Tryz.prog).cellsOf 3=1:=by kernel_rfl
theorem x1s:(Tryz.prog).keyType 66=true:=by kernel_rfl
theorem k11:laidOutB Tryz.prog=true:=by kernel_rfl
theorem x19:(Tryz.prog).keyTypeAt 3 66=true:=by kernel_rfl
theorem y11:66<(Tryz.prog).types.size:=of_decide_eq_true (by kernel_rfl)
theorem F7:Keyed Tryz.prog 66:=Keyed.of_law (deep_law_laid k11 (m:=3) (by decide) y11 x19 (by rw[Mq]))
def okQ(s:Int×Int):Prop:=(-1≤s.1∧s.1≤1000000)∧(-1≤s.2∧s.2≤1000000)
theorem v16{s t:Int×Int}(h:pqr s=pqr t):s=t:=by unfold pqr at h;simp at h;exact tG h.1 h.2
theorem k1q{z:Int}(h: -1≤z∧z≤1000000):(Lit.int .i64 z).wf=true:=by
 have h1:IntKind.i64.min= -9223372036854775808:=by decide
 have h2:IntKind.i64.max=9223372036854775807:=by decide
 simp only[Lit.wf,h1,h2,zR,decide_eq_true_eq];omega
theorem j0o(d:Nat){z:Int}(h: -1≤z∧z≤1000000):(Tryz.prog).keyLits (d+1) 3 [.int .i64 z]=some [.int .i64 z]:=by unfold Program.keyLits;rw[u1t];simp[k1q h]
theorem f1h(d:Nat){s:Int×Int}(h:okQ s):(Tryz.prog).keyLits (d+2) 66 [.int .i64 s.1,.int .i64 s.2]=some [.int .i64 s.1,.int .i64 s.2]:=by unfold Program.keyLits;rw[Mq];simp only[Mo,g06,yB,tg,if_true];have h1:=j0o d h.1;have h2:=j0o d h.2;simp[w_,h1,h2]
theorem I7{s:Int×Int}(h:okQ s):isKey Tryz.prog 66 (pqr s):=by
 refine⟨.agg #[.int .i64 s.1,.int .i64 s.2],.string (keyBytes [.int .i64 s.1,.int .i64 s.2]),rfl,?_⟩;obtain⟨d,hd⟩:∃d,(Tryz.prog).types.size+1=d+2:=⟨(Tryz.prog).types.size - 1,by have:=y11;omega⟩
 unfold keyOf;rw[Mq];simp only;have hf:Value.formed Tryz.prog 66 (.agg #[.int .i64 s.1,.int .i64 s.2])=true:=by unfold Value.formed;rw[Mq,Mo];rfl
 rw[x1s,hf,hd];have:(Value.agg #[.int .i64 s.1,.int .i64 s.2]).cells.toList=[.int .i64 s.1,.int .i64 s.2]:=rfl;rw[this,f1h d h];rfl
def kvQ(l:List (Int×Int)):List (AV×AV):=l.map fun s=>(pqr s,.bool true)
def stQ(l:List (Int×Int)):AObj:= .mp (kvQ l)
theorem Zb{l:List (Int×Int)}(h:∀s∈l,okQ s):∀p∈kvQ l,isKey Tryz.prog 66 p.1:=fun p hp=>by obtain⟨e,he,rfl⟩:=zN.1 hp;exact I7 (h e he)
theorem Kv{l:List (Int×Int)}{j:Nat}{p:AV×AV}{s:Int×Int}(hp:(kvQ l)[j]? =some p)(he:p.1=pqr s):s∈l∧p.2= .bool true:=by unfold kvQ at hp;rw[zQ]at hp;obtain⟨m,hm,rfl⟩:=zL.1 hp;have z1:m=s:=v16 he;exact⟨by rw[←z1];exact List.mem_of_getElem? hm,rfl⟩
section
variable {nt k:Nat} {S:AS} {ops:Array Oper} {o:Oper} {R:AS→Prop}
theorem Br {wr:Bool} (hw:Q5 ops S o=some true) (hd:W1 nt o=true) {x ix:Operand} (ho:o.op= .lookup 174 x ix false) {id:Nat} (hx:rho S.sl x=some (.mref id)) {s:Int×Int} (z1:rho S.sl ix=some (.agg [.i s.1,.i s.2]))
  {l:List (Int×Int)} (z6:S.hp[id]? =some (stQ l)) (hl:∀m∈l,okQ m) (hn:okQ s) (hR:R (S.putD o.dst (.bool (decide (s∈l))))):Wm Tryz.prog nt k wr ops o S R:=by
 refine Db tOk hw hd ho u13 rfl T4 F7 hx z1 z6 (I7 hn) (Zb hl) (z:= .bool false) rfl (fun j p hp he=> ?_) (fun z7=> ?_)
 ·obtain⟨h1,h2⟩:=Kv hp he;rw[decide_eq_true h1]at hR;rw[h2];exact hR
 ·rw[decide_eq_false (fun h=>z7 (pqr s,.bool true) (zN.2 ⟨s,h,rfl⟩) rfl)]at hR;exact hR
theorem Sx {wr:Bool} (hw:Q5 ops S o=some true) (hd:W1 nt o=true) {x ix:Operand} (ho:o.op= .lookup 174 x ix false) {id:Nat} (hx:rho S.sl x=some (.mref id)) {s:Int×Int} (z1:rho S.sl ix=some (.agg [.i s.1,.i s.2]))
  {l:List (Int×Int)} (z6:S.hp[id]? =some (.fm (kvQ l))) (hl:∀m∈l,okQ m) (hn:okQ s) (hR:R (S.putD o.dst (.bool (decide (s∈l))))):Wm Tryz.prog nt k wr ops o S R:=by
 refine Zt tOk hw hd ho u13 rfl T4 F7 hx z1 z6 (I7 hn) (Zb hl) (z:= .bool false) rfl (fun j p hp he=> ?_) (fun z7=> ?_)
 ·obtain⟨h1,h2⟩:=Kv hp he;rw[decide_eq_true h1]at hR;rw[h2];exact hR
 ·rw[decide_eq_false (fun h=>z7 (pqr s,.bool true) (zN.2 ⟨s,h,rfl⟩) rfl)]at hR;exact hR
theorem H5 (hw:Q5 ops S o=some true) (hd:W1 nt o=true) {x ix y:Operand} (ho:o.op= .mapUpdate 174 x ix y) {id:Nat} (hx:rho S.sl x=some (.mref id)) {s:Int×Int} (z1:rho S.sl ix=some (.agg [.i s.1,.i s.2])) (hy:rho S.sl y=some (.bool true))
  {l:List (Int×Int)} (z6:S.hp[id]? =some (stQ l)) (hl:∀m∈l,okQ m) (hn:okQ s) (z7:s∉l) (hR:R (({ S with hp:=S.hp.set id (stQ (l++[s])) }:AS).putD o.dst (.tup []))):Wm Tryz.prog nt k true ops o S R:=by
 refine Ru tOk hw hd ho u13 rfl F7 hx z1 hy (by simp[AV.pure]) z6 (I7 hn) (Zb hl) (fun j p hp he=> ?_) (fun z8=> ?_)
 ·exact absurd (Kv hp he).1 z7
 ·have:kvQ l++[(pqr s,.bool true)]=kvQ (l++[s]):=by simp[kvQ]
  unfold stQ at hR;rw[←this]at hR;exact hR
theorem Nf (hw:Q5 ops S o=some true) (hd:W1 nt o=true) {x ix y:Operand} (ho:o.op= .mapUpdate 174 x ix y) {id:Nat} (hx:rho S.sl x=some (.mref id)) {s:Int×Int} (z1:rho S.sl ix=some (.agg [.i s.1,.i s.2])) (hy:rho S.sl y=some (.bool true))
  {l:List (Int×Int)} (z6:S.hp[id]? =some (stQ l)) (hl:∀m∈l,okQ m) (hn:okQ s) (hR:R (({ S with hp:=S.hp.set id (stQ (adQ l s)) }:AS).putD o.dst (.tup []))):Wm Tryz.prog nt k true ops o S R:=by
 by_cases hm:s∈l
 ·rw[y1y hm]at hR;refine Ru tOk hw hd ho u13 rfl F7 hx z1 hy (by simp[AV.pure]) z6 (I7 hn) (Zb hl) (fun j p hp he=> ?_) (fun z7=> ?_)
  ·obtain⟨h1,h2⟩:=Kv hp he;have:(kvQ l).set j (pqr s,.bool true)=kvQ l:=by
    refine xA fun i=> ?_;by_cases hi:i=j
    ·subst hi;rw[zH (zA.1 hp).1,hp]
     congr 1
     exact tG he.symm h2.symm
    ·rw[zB (Ne.symm hi)]
   unfold stQ at hR;rw[←this]at hR;exact hR
  ·exact absurd rfl (z7 (pqr s,.bool true) (zN.2 ⟨s,hm,rfl⟩))
 ·rw[f00 hm]at hR;exact H5 hw hd ho hx z1 hy z6 hl hn hm hR
theorem z0t (hw:Q5 ops S o=some true) (hd:W1 nt o=true) {x ix y:Operand} (ho:o.op= .insert 174 x ix y) {id:Nat} (hx:rho S.sl x=some (.mref id)) {s:Int×Int} (z1:rho S.sl ix=some (.agg [.i s.1,.i s.2])) (hy:rho S.sl y=some (.bool true))
  (z6:S.hp[id]? =some (.mp [])) (hn:okQ s) (hR:R (({ S with hp:=S.hp.set id (stQ [s]) }:AS).putD o.dst (.tup []))):Wm Tryz.prog nt k true ops o S R:=by
 refine Sz tOk hw hd ho u13 rfl F7 hx z1 hy (by simp[AV.pure]) z6 (I7 hn) (fun p hp=>by cases hp) (fun j p hp he=>by cases hp) (fun z7=> ?_);exact hR
end
def q1z(xs ys:List Sy)(i:Nat):Prop:=ys.length=xs.length∧∀p,p<xs.length→ys[p]? =if p<i∨xs.length - i≤p then xs[xs.length - 1 - p]? else xs[p]?
theorem q1z.done{xs ys:List Sy}{i:Nat}(h:q1z xs ys i)(hi:xs.length≤2 * i+1):ys=xs.reverse:=by
 refine xA fun p=> ?_;by_cases hp:p<xs.length
 ·rw[h.2 p hp,List.getElem?_reverse hp];split
  ·rfl
  ·rename_i hn
   congr 1;omega
 ·rw[xC (by rw[h.1];omega),xC (by simp;omega)]
theorem q1z.start(xs:List Sy):q1z xs xs 0:=⟨rfl,fun p hp=>by rw[if_neg (by omega)]⟩
theorem q1z.step{xs ys:List Sy}{i:Nat}(h:q1z xs ys i)(hi:2 * i+1<xs.length){x y:Sy}(hx:ys[i]? =some x)(hy:ys[xs.length - 1 - i]? =some y):q1z xs ((ys.set i y).set (xs.length - 1 - i) x) (i+1):=by
 refine⟨by simp[h.1],fun p hp=> ?_⟩;have h1:=h.2 i (by omega);rw[if_neg (by omega),hx]at h1;have h2:=h.2 (xs.length - 1 - i) (by omega);rw[if_neg (by omega),hy]at h2;by_cases e1:p=xs.length - 1 - i
 ·subst e1;rw[zH (by simp[h.1];omega),if_pos (by omega),show xs.length - 1 - (xs.length - 1 - i)=i by omega];exact h1
 ·rw[zB (Ne.symm e1)];by_cases e2:p=i
  ·subst e2;rw[zH (by rw[h.1];omega),if_pos (by omega)];exact h2
  ·rw[zB (Ne.symm e2),h.2 p hp];by_cases e3:p<i∨xs.length - i≤p
   ·rw[if_pos e3,if_pos (by omega)]
   ·rw[if_neg e3,if_neg (by omega)]
theorem X5(H:List AObj)(p:Nat)(xs:List Sy)(hp:H[p]? =some (.arr 52 2 (xs.map encSy)))(hl:xs.length≤1000000):FC Tryz.prog 189 [.sl p 2 0 xs.length] H (fun r H'=>r= .tup []∧H'=H.set p (.arr 52 2 (xs.reverse.map encSy))):=by
 refine Ef tOk Tryz.func189 rfl Tryz.results189 rfl (by simp[Tryz.ntmps189]) ?_;rw[Tryz.ntmps189];simp only[Qe];have zc:=Qi hp;have ze:IntKind.i64.wrap ((xs.length:Int) - 1)=(xs.length:Int) - 1:=wrap_i64 _ (by omega) (by omega);have z6:H.set p (.arr 52 2 (xs.map encSy))=H:=by
  refine xA fun i=> ?_;by_cases e:i=p
  ·subst e;rw[zH zc,hp]
  ·rw[zB (Ne.symm e)]
 repeat first|(refine r_ ?_;simp[ze])|refine q_ ?_
 refine Ql (Qb (sl':=[(0,.sl p 2 0 xs.length),(2,.i (0:Nat)),(3,.i ((xs.length:Int) - 1))]) ?_ (by simp));refine Qm (P:=Tryz.prog) (F:=fun(u:Nat×Int×List Sy×List AObj)=>⟨[(0,.sl p 2 0 xs.length),(2,.i u.1),(3,.i u.2.1)],u.2.2.2⟩)
  (fun u=>u.1≤xs.length∧u.2.1=(xs.length:Int) - 1 - u.1∧q1z xs u.2.2.1 u.1∧u.2.2.2=H.set p (.arr 52 2 (u.2.2.1.map encSy))) (fun u=>xs.length - u.1) ?_ (0,(xs.length:Int) - 1,xs,H) ⟨xE _,by simp,q1z.start xs,z6.symm⟩
 rintro⟨i,m,ys,G⟩ ⟨hi,hm,hr,hG⟩ ih;simp only at hi hm hr hG ih ⊢;repeat first|(refine r_ ?_;simp)|refine q_ ?_
 refine Qa rfl (fun zf=> ?_) (fun zg=> ?_)
 ·have zh:(i:Int)<m:=by simpa using zf
  obtain⟨k,rfl⟩:∃k:Nat,m=k:=⟨m.toNat,by omega⟩
  have hk:k=xs.length - 1 - i:=by omega
  have zi:i<k:=by omega
  have zj:k<xs.length:=by omega
  have z7:i<xs.length:=by omega
  have zk:IntKind.i64.wrap ((i:Int)+1)=i+1:=wrap_i64 _ (by omega) (by omega);have zl:IntKind.i64.wrap ((k:Int) - 1)=(k:Int) - 1:=wrap_i64 _ (by omega) (by omega);have zr:=hr.1;obtain⟨x,hx⟩:∃x,ys[i]? =some x:=⟨_,zF (by omega)⟩
  obtain⟨y,hy⟩:∃y,ys[k]? =some y:=⟨_,zF (by omega)⟩
  have hst:=hr.step (by omega) hx (by rw[←hk];exact hy);rw[←hk]at hst;have hg:G[p]? =some (.arr 52 2 (ys.map encSy)):=by rw[hG,zH zc]
  have zd:(ys.map encSy)[i]? =some (.agg [.i x.ty,.i x.num]):=by rw[zQ,hx];rfl
  have z8:(ys.map encSy)[k]? =some (.agg [.i y.ty,.i y.num]):=by rw[zQ,hy];rfl
  have zm:∀hh,(ys.map encSy)[i]'hh= .agg [.i x.ty,.i x.num]:=fun hh=>(xF hh).2 zd;have zn:∀hh,(ys.map encSy)[k]'hh= .agg [.i y.ty,.i y.num]:=fun hh=>(xF hh).2 z8;have zo:i<ys.length:=by omega
  have za:k<ys.length:=by omega
  have zp:∀z,(G.set p z)[p]? =some z:=fun z=>Qq hg z;have z1:∀z,((ys.map encSy).set i z)[k]? =some (.agg [.i y.ty,.i y.num]):=fun z=>by rw[zB (by omega)];exact z8
  have zb:∀z hh,((ys.map encSy).set i z)[k]'hh= .agg [.i y.ty,.i y.num]:=fun z hh=>(xF hh).2 (z1 z);repeat first|(refine r_ ?_;simp)|refine q_ ?_
  refine Qj tOk mixed [13,15] (.val 0 (.val 1 (.val 2 (.val 3 (.val 4 (.val 5 (.val 6 (.val 7 (.val 8 (.val 9 (.val 10 (.val 11 (.val 12 (.one 13 (.val 14 (.one 15 (.done))))))))))))))))) rfl (by kernel_rfl) ?_;simp[hg,zd,z8,zm,zn,zo,za,zp,z1,zi,zj,z7,zb];repeat first|(refine r_ ?_;simp[zk,zl])|refine q_ ?_
  refine Qb (sl':=[(0,.sl p 2 0 xs.length),(2,.i (i+1:Nat)),(3,.i ((k:Int) - 1))]) ?_ (by simp);exact ih (i+1,(k:Int) - 1,(ys.set i y).set k x,_) ⟨by simp only;omega,by simp only;omega,hst,by rw[hG,List.set_set];simp[List.map_set,encSy]⟩ (by simp only;omega)
 ·have zq:m≤(i:Int):=by simpa using zg
  have hd:=hr.done (by omega);subst hd;repeat first|(refine r_ ?_;simp)|refine q_ ?_
  rw[hG,List.map_reverse]
def A9(v:Vst):AV:= .agg [.i v.s.1,.i v.s.2,.i v.fr,.i v.on.ty,.i v.on.num,.bool v.fst]
theorem q10(V:List Vst)(L:List ((Int×Int)×List Sy))(hV:VOk V L)(i:Nat)(e:(Int×Int)×List Sy)(he:L[i]? =some e)(hl:V.length≤1000000):PC Tryz.prog 128 [.list (V.map A9),.i i] (fun r=>r=LSy e.2):=by
 refine Qh tOk Tryz.func128 rfl Tryz.results128 rfl (by simp[Tryz.ntmps128]) ?_;rw[Tryz.ntmps128];simp only[Qe];have ze:i<L.length:=(zA.1 he).1;have zf:=hV.len;repeat first|(refine r_ ?_;simp)|refine q_ ?_
 refine Q6 5 52 2 rfl ?_;simp;have hst:=SL.start [] 52 2;refine Ql (Qb (sl':=[(0,.list (V.map A9)),(1,.i i),(5,.sl 0 2 0 ([]:List Sy).length)]) ?_ (by simp));refine Qm (P:=Tryz.prog) (F:=fun(u:Nat×Nat×List Sy×List AObj)=>⟨[(0,.list (V.map A9)),(1,.i u.1),(5,.sl u.2.1 2 0 u.2.2.1.length)],u.2.2.2⟩)
  (fun u=>(∃d,L[u.1]? =some d∧e.2=d.2++u.2.2.1.reverse)∧u.2.2.1.length+u.1≤i∧u.2.2.2[u.2.1]? =some (.arr 52 2 (u.2.2.1.map encSy))) (fun u=>u.1) ?_ (i,0,[],_) ⟨⟨e,he,by simp⟩,by simp,by simp⟩
 rintro⟨k,q,out,G⟩ ⟨⟨d,hd,z1⟩,zc,gq⟩ ih;simp only at hd z1 zc gq ih ⊢;have z7:k<V.length:=by have:=(zA.1 hd).1;omega
 obtain⟨v,hv⟩:∃v,V[k]? =some v:=⟨_,zF z7⟩
 have za:=hV.way k v d hv hd;have z6:(V.map A9)[k]? =some (A9 v):=by rw[zQ,hv];rfl
 have z8:∀hh,(V.map A9)[k]'hh=A9 v:=fun hh=>(xF hh).2 z6;simp only[A9]at z6 z8;repeat first|(refine r_ ?_;simp[z6,z8,z7])|refine q_ ?_
 rcases za with⟨h1,h2⟩|⟨h1,h2,d',h3,h4⟩
 ·rw[h2,List.nil_append]at z1;rw[h1];refine Qa rfl (fun h=>by simp at h) (fun _=> ?_);repeat first|(refine r_ ?_;simp)|refine q_ ?_
  refine We rfl rfl (X5 G q out gq (by omega)) rfl ?_;rintro _ _ ⟨rfl,rfl⟩;simp;have zd:∀z,(G.set q z)[q]? =some z:=fun z=>Qq gq z;have zg:out.length=e.2.length:=by rw[z1];simp
  rw[z1];repeat first|(refine r_ ?_;simp[zd])|refine q_ ?_
  rw[zM (by simp)]
 ·rw[h1];refine Qa rfl (fun _=> ?_) (fun h=>by simp at h);have zb:(out.map encSy).length=out.length:=by simp
  repeat first|(refine r_ ?_;simp[z6,z8,z7])|refine q_ ?_
  refine Qf tOk rfl rfl T26 rfl T52 rfl (by decide) (by decide) rfl rfl rfl ?_;simp[Qd gq,Qk gq,zb];refine⟨by simp[Wu,Qd gq,Qk gq,zb]<;>omega,?_⟩;repeat first|(refine r_ ?_;simp[z6,z8,z7])|refine q_ ?_
  refine Qb (sl':=[(0,.list (V.map A9)),(1,.i v.fr),(5,.sl (G.length+1) 2 0 (out++[v.on]).length)]) ?_ (by simp);refine ih (v.fr,G.length+1,out++[v.on],_) ⟨⟨d',h3,by rw[z1,h4];simp⟩,by simp;omega,?_⟩ h2;simp only;rw[zC (by simp)];simp[encSy]
end Go.Abs
namespace Go.Abs
open Go Go.Proofs Go.Maps Go.RowKit
theorem g1b(x y:Int):(if x<y then y else x)=max x y:=by omega
def x2e:Option Int→AV
 |some n=> .tup [.i n,.bool true]
 |none=> .tup [.i 0,.bool false]
def q19:Option Sy→AV
 |some x=> .tup [encSy x,.bool true]
 |none=> .tup [encSy ⟨0,0⟩,.bool false]
attribute [local irreducible] lqB Ce
end Go.Abs
namespace Go.Abs
open Go Go.Proofs Go.Maps Go.RowKit
def z13:Option Int→AV
 |some m=> .tup [.i m,.bool true]
 |none=> .tup [.i 0,.bool false]
theorem w1p(l:List Iv)(n:Int):PC Tryz.prog 281 [LIv l,.i n] (fun r=>r=z13 (x0f l n)):=by
 refine Qh tOk Tryz.func281 rfl Tryz.results281 rfl (by simp[Tryz.ntmps281]) ?_;rw[Tryz.ntmps281];simp only[Qe];refine Rq 0 rfl (fun hlen=> ?_);rw[zV]at hlen;obtain⟨R,hR⟩:∃R,x0f l n=R:=⟨_,rfl⟩
 rw[hR];repeat first|(refine r_ ?_;simp)|refine q_ ?_
 refine Qr l.length (fun j=>x0f (l.drop j) n=R) (fun j=>[(1,.i n),(8,LIv l),(9,.i l.length),(10,.i j)]) (fun _=>[]) rfl (by simp) (by simp) (by simp) (by simp) (by simpa using hR) ?_;intro j hj hI ih;repeat first|(refine r_ ?_;simp)|refine q_ ?_
 refine Qa rfl (fun za=> ?_) (fun zb=> ?_)
 ·have z1:j<l.length:=by simpa using za
  have hw:IntKind.i64.wrap ((j:Int)+1)=j+1:=wrap_i64 _ (by omega) (by omega);rw[Wo z1,x0f]at hI;have z7:(l.map encIv)[j]? =some (encIv l[j]):=by simp[z1]
  have z8:∀hh,(l.map encIv)[j]'hh=encIv l[j]:=fun hh=>by simp
  generalize l[j]=x at *;simp only[encIv]at z7 z8
  repeat first|(refine r_ ?_;simp[z7,z8,z1])|refine q_ ?_
  refine Qa rfl (fun h=> ?_) (fun h=> ?_)
  ·rw[if_pos (by simpa using h)]at hI;subst hI;repeat first|(refine r_ ?_;simp)|refine q_ ?_
   simp only[z13,g1b]
  ·rw[if_neg (by simpa using h)]at hI;repeat first|(refine r_ ?_;simp[hw])|refine q_ ?_
   refine Qo _ (ih z1 hI) rfl (by simp) ?_ (by simp) (by simp);simp
 ·have z6:j=l.length:=by simp at zb;omega
  subst z6;rw[yS]at hI;subst hI;repeat first|(refine r_ ?_;simp)|refine q_ ?_
  rfl
def bdL(l:List Iv):Prop:=∀x∈l,-1099511627776≤x.lo∧x.hi≤1099511627776
theorem y0p(l:List Iv)(n:Int)(hb:bdL l):PC Tryz.prog 282 [LIv l,.i n] (fun r=>r= .i (Mh l n)):=by
 refine Qh tOk Tryz.func282 rfl Tryz.results282 rfl (by simp[Tryz.ntmps282]) ?_;rw[Tryz.ntmps282];simp only[Qe];refine Rq 0 rfl (fun hlen=> ?_);rw[zV]at hlen;obtain⟨R,hR⟩:∃R,Mh l n=R:=⟨_,rfl⟩
 rw[hR];repeat first|(refine r_ ?_;simp)|refine q_ ?_
 refine Ql (Qb (sl':=[(1,.i n),(7,LIv l),(8,.i l.length),(9,.i (0:Nat))]) ?_ (by simp));refine Qm (P:=Tryz.prog) (F:=fun(u:Nat×Int×List AObj)=>⟨[(1,.i u.2.1),(7,LIv l),(8,.i l.length),(9,.i u.1)],u.2.2⟩)
  (fun u=>u.1≤l.length∧Mh (l.drop u.1) u.2.1=R) (fun u=>l.length - u.1) ?_ (0,n,[]) ⟨xE _,by simpa using hR⟩
 clear hR;rintro⟨j,c,G⟩ ⟨hj,hI⟩ ih;simp only at hj hI ih ⊢;repeat first|(refine r_ ?_;simp)|refine q_ ?_
 refine Qa rfl (fun zb=> ?_) (fun zc=> ?_)
 ·have z1:j<l.length:=by simpa using zb
  have hw:IntKind.i64.wrap ((j:Int)+1)=j+1:=wrap_i64 _ (by omega) (by omega);rw[Wo z1,Mh]at hI;have z6:(l.map encIv)[j]? =some (encIv l[j]):=by simp[z1]
  have z7:∀hh,(l.map encIv)[j]'hh=encIv l[j]:=fun hh=>by simp
  have hx:=hb _ (zG z1);generalize l[j]=x at *;simp only[encIv]at z6 z7
  by_cases h1:x.lo≤c
  ·have d1:decide (x.lo≤c)=true:=by simpa using h1
   repeat first|(refine r_ ?_;simp[z6,z7,z1,d1])|refine q_ ?_
   refine Qa rfl (fun h=> ?_) (fun h=> ?_)
   ·have h2:c≤x.hi:=by simpa using h
    rw[if_pos ⟨h1,h2⟩]at hI;have z8:IntKind.i64.wrap (x.hi+1)=x.hi+1:=wrap_i64 _ (by omega) (by omega);repeat first|(refine r_ ?_;simp[z8,hw])|refine q_ ?_
    refine Qb (sl':=[(1,.i (x.hi+1)),(7,LIv l),(8,.i l.length),(9,.i (j+1:Nat))]) ?_ (by simp);exact ih (j+1,x.hi+1,_) ⟨by simp only;omega,hI⟩ (by simp only;omega)
   ·have h2:¬c≤x.hi:=by simpa using h
    rw[if_neg (fun k=>h2 k.2)]at hI;repeat first|(refine r_ ?_;simp[hw])|refine q_ ?_
    refine Qb (sl':=[(1,.i c),(7,LIv l),(8,.i l.length),(9,.i (j+1:Nat))]) ?_ (by simp);exact ih (j+1,c,_) ⟨by simp only;omega,hI⟩ (by simp only;omega)
  ·have d1:decide (x.lo≤c)=false:=by simpa using h1
   rw[if_neg (fun k=>h1 k.1)]at hI;repeat first|(refine r_ ?_;simp[z6,z7,z1,d1])|refine q_ ?_
   refine Qa rfl (fun h=>by simp at h) (fun h=> ?_);repeat first|(refine r_ ?_;simp[hw])|refine q_ ?_
   refine Qb (sl':=[(1,.i c),(7,LIv l),(8,.i l.length),(9,.i (j+1:Nat))]) ?_ (by simp);exact ih (j+1,c,_) ⟨by simp only;omega,hI⟩ (by simp only;omega)
 ·have za:j=l.length:=by simp at zc;omega
  subst za;rw[yS]at hI;subst hI;repeat first|(refine r_ ?_;simp)|refine q_ ?_
  rfl
def q1g:Option Int→AV
 |some m=> .tup [.i m,.bool (decide (m≤1099511627776))]
 |none=> .tup [.i 0,.bool false]
def w2e(O:List (List Iv)):Option Int→Option Int
 |some m=>some (x0x O m)
 |none=>none
theorem x1y(I O:List (List Iv))(n:Int):y1r I O n=w2e O (j09 I n):=by unfold y1r w2e;cases j09 I n<;>rfl
theorem N9{t:Nat}{ps:List Prd}{j:Nat}(h:j<ps.length):Ah t (ps.drop j)=ps[j].getD t []::Ah t (ps.drop (j+1)):=by unfold Ah;rw[Wo h];rfl
theorem f1i{T:Nat}{p:Prd}(h:PCk T p){s:List Iv}(hs:s∈p):bdL s:=fun x hx=>by obtain⟨i,hi,rfl⟩:=List.getElem_of_mem hx;have:=(h.2 s hs).iv hi;omega
theorem j0r{p:Prd}{t:Nat}(h:t<p.length):p.getD t []=p[t]:=by simp[yR,h]
theorem K9{T:Nat}{p:Prd}(h:PCk T p){t:Nat}(ht:t<T):(p.map encL)[t]? =some (encL (p.getD t []))∧p.getD t []∈p:=by
 have hl:t<p.length:=by rw[h.1];exact ht
 rw[j0r hl];exact⟨by simp[hl],zG hl⟩
attribute [local irreducible] x0f Mh
theorem z1j(T:Nat)(ins outs:List Prd)(zj:∀p∈ins,PCk T p)(zc:∀p∈outs,PCk T p)(t:Nat)(ht:t<T)(n:Int):PC Tryz.prog 233 [.i n,.i t,LP ins,LP outs] (fun r=>r=q1g (y1r (Ah t ins) (Ah t outs) n)):=by
 refine Qh tOk Tryz.func233 rfl Tryz.results233 rfl (by simp[Tryz.ntmps233]) ?_;rw[Tryz.ntmps233];simp only[Qe];refine Rq 2 rfl (fun hlen=> ?_);refine Rq 3 rfl (fun z7=> ?_);rw[zV]at hlen z7;obtain⟨R,hR⟩:∃R,y1r (Ah t ins) (Ah t outs) n=R:=⟨_,rfl⟩
 rw[hR];rw[x1y]at hR;repeat first|(refine r_ ?_;simp)|refine q_ ?_
 refine Ql (Qb (sl':=[(0,.i n),(1,.i t),(3,LP outs),(16,LP ins),(17,.i ins.length),(18,.i (0:Nat))]) ?_ (by simp));refine Qm (P:=Tryz.prog) (F:=fun(u:Nat×Int×List AObj)=>⟨[(0,.i u.2.1),(1,.i t),(3,LP outs),(16,LP ins),(17,.i ins.length),(18,.i u.1)],u.2.2⟩)
  (fun u=>u.1≤ins.length∧w2e (Ah t outs) (j09 (Ah t (ins.drop u.1)) u.2.1)=R) (fun u=>ins.length - u.1) ?_ (0,n,[]) ⟨xE _,by simpa using hR⟩
 clear hR;rintro⟨j,c,G⟩ ⟨hj,hI⟩ ih;simp only at hj hI ih ⊢;repeat first|(refine r_ ?_;simp)|refine q_ ?_
 refine Qa rfl (fun zd=> ?_) (fun ze=> ?_)
 ·have z1:j<ins.length:=by simpa using zd
  have hw:IntKind.i64.wrap ((j:Int)+1)=j+1:=wrap_i64 _ (by omega) (by omega);rw[N9 z1,j09]at hI;have z8:(ins.map encP)[j]? =some (encP ins[j]):=by simp[z1]
  have za:∀hh,(ins.map encP)[j]'hh=encP ins[j]:=fun hh=>by simp
  have hp:=zj _ (zG z1);generalize ins[j]=p at *
  obtain⟨zb,zh⟩:=K9 hp ht;have zf:∀hh,(p.map encL)[t]'hh=encL (p.getD t []):=fun hh=>(xF hh).2 zb;have zg:t<p.length:=by rw[hp.1];exact ht
  generalize p.getD t []=s at *;simp only[encP]at z8 za
  repeat first|(refine r_ ?_;simp[z8,za,z1,zb,zf,zg])|refine q_ ?_
  refine Qc rfl rfl (by simp) (w1p s c) rfl ?_;rintro _ rfl;simp;cases hf:x0f s c with
  |none=>
   rw[hf]at hI;simp only at hI;subst hI;simp[z13];repeat first|(refine r_ ?_;simp)|refine q_ ?_
   refine Qa rfl (fun _=> ?_) (fun h=>by simp at h);repeat first|(refine r_ ?_;simp)|refine q_ ?_
   rfl
  |some m=>
   rw[hf]at hI;simp only at hI;simp[z13];repeat first|(refine r_ ?_;simp)|refine q_ ?_
   refine Qa rfl (fun h=>by simp at h) (fun _=> ?_);repeat first|(refine r_ ?_;simp[hw])|refine q_ ?_
   refine Qb (sl':=[(0,.i m),(1,.i t),(3,LP outs),(16,LP ins),(17,.i ins.length),(18,.i (j+1:Nat))]) ?_ (by simp);exact ih (j+1,m,_) ⟨by simp only;omega,hI⟩ (by simp only;omega)
 ·have z6:j=ins.length:=by simp at ze;omega
  subst z6;rw[yS]at hI;simp only[Ah,xN,j09]at hI;clear ih;repeat first|(refine r_ ?_;simp)|refine q_ ?_
  have zi:some (x0x (Ah t outs) c)=R:=hI;refine Ql (Qb (sl':=[(0,.i c),(1,.i t),(36,LP outs),(37,.i outs.length),(38,.i (0:Nat))]) ?_ (by simp));refine Qm (P:=Tryz.prog) (F:=fun(u:Nat×Int×List AObj)=>⟨[(0,.i u.2.1),(1,.i t),(36,LP outs),(37,.i outs.length),(38,.i u.1)],u.2.2⟩)
   (fun u=>u.1≤outs.length∧some (x0x (Ah t (outs.drop u.1)) u.2.1)=R) (fun u=>outs.length - u.1) ?_ (0,c,G) ⟨xE _,by simpa using zi⟩
  clear hI zi;clear G c;rintro⟨j,c,G⟩ ⟨hj,hI⟩ ih;simp only at hj hI ih ⊢;repeat first|(refine r_ ?_;simp)|refine q_ ?_
  refine Qa rfl (fun zd=> ?_) (fun ze=> ?_)
  ·have z1:j<outs.length:=by simpa using zd
   have hw:IntKind.i64.wrap ((j:Int)+1)=j+1:=wrap_i64 _ (by omega) (by omega);rw[N9 z1,x0x]at hI;have z8:(outs.map encP)[j]? =some (encP outs[j]):=by simp[z1]
   have za:∀hh,(outs.map encP)[j]'hh=encP outs[j]:=fun hh=>by simp
   have hp:=zc _ (zG z1);generalize outs[j]=p at *
   obtain⟨zb,zh⟩:=K9 hp ht;have zf:∀hh,(p.map encL)[t]'hh=encL (p.getD t []):=fun hh=>(xF hh).2 zb;have zg:t<p.length:=by rw[hp.1];exact ht
   have zk:=f1i hp zh;generalize p.getD t []=s at *;simp only[encP]at z8 za
   repeat first|(refine r_ ?_;simp[z8,za,z1,zb,zf,zg])|refine q_ ?_
   refine Qc rfl rfl (by simp) (y0p s c zk) rfl ?_;rintro _ rfl;simp;generalize Mh s c=m at *
   repeat first|(refine r_ ?_;simp[hw])|refine q_ ?_
   refine Qb (sl':=[(0,.i m),(1,.i t),(36,LP outs),(37,.i outs.length),(38,.i (j+1:Nat))]) ?_ (by simp);exact ih (j+1,m,_) ⟨by simp only;omega,hI⟩ (by simp only;omega)
  ·have z6:j=outs.length:=by simp at ze;omega
   subst z6;rw[yS]at hI;simp only[Ah,xN,x0x]at hI;subst hI;repeat first|(refine r_ ?_;simp)|refine q_ ?_
   simp[q1g]
theorem j1h{T:Nat}{ps:List Prd}(h:∀p∈ps,PCk T p){t:Nat}(ht:t<T):∀l∈Ah t ps,Sep l:=fun l hl=>by unfold Ah at hl;obtain⟨p,hp,rfl⟩:=zN.1 hl;exact P7 ((h p hp).2 _ (K9 (h p hp) ht).2)
attribute [local irreducible] y1r Gf
theorem Vk(T:Nat)(hT:T≤1000)(ins outs:List Prd)(zi:∀p∈ins,PCk T p)(ze:∀p∈outs,PCk T p)(P:Prd)(hf:FitP T ins outs P):PC Tryz.prog 193 [.i T,LP ins,LP outs] (fun r=>r=q19 (Zy P)):=by
 refine Qh tOk Tryz.func193 rfl Tryz.results193 rfl (by simp[Tryz.ntmps193]) ?_;rw[Tryz.ntmps193];simp only[Qe];have hex:=fun t n=>hf.mem t n;have za:=fun t n h1 h2 h3 h4 h5=>hf.some (t:=t) (n:=n) h1 h2 h3 h4 h5;have zb:=hf.none;have zj:=fun t h k=>hf.no (t:=t) h k;generalize Zy P=R at *
 repeat first|(refine r_ ?_;simp)|refine q_ ?_
 refine Ql (Qb (sl':=[(1,LP ins),(2,LP outs),(6,.vptr 0 0),(12,.i T),(13,.i (0:Nat))]) ?_ (by simp));refine Qm (P:=Tryz.prog) (F:=fun(t:Nat)=>⟨[(1,LP ins),(2,LP outs),(6,.vptr 0 0),(12,.i T),(13,.i t)],[.vars [.i 0,.i 0]]⟩)
  (fun t=>t≤T∧∀t',t'<t→∀k,¬PM P t' k) (fun t=>T - t) ?_ 0 ⟨xE _,fun t' h=>absurd h (tv _)⟩
 rintro t ⟨zn,hb⟩ ih;repeat first|(refine r_ ?_;simp)|refine q_ ?_
 refine Qa rfl (fun zk=> ?_) (fun zl=> ?_)
 ·have z6:t<T:=by simpa using zk
  have hw:IntKind.i64.wrap ((t:Int)+1)=t+1:=wrap_i64 _ (by omega) (by omega);have zc:=fun n=>z1j T ins outs zi ze t z6 n;have zm:=fun n=>d0a (Ah t ins) (Ah t outs) n (j1h zi z6);have z7:=fun n=>za t n z6 hb;have zf:=zj t;generalize Ah t ins=I at *;generalize Ah t outs=O at *
  repeat first|(refine r_ ?_;simp)|refine q_ ?_
  refine Ql (Qb (sl':=[(1,LP ins),(2,LP outs),(6,.vptr 0 0),(8,.i t),(9,.i (-1099511627776)),(12,.i T),(13,.i t)]) ?_ (by simp));refine Qm (P:=Tryz.prog) (F:=fun(n:Int)=>⟨[(1,LP ins),(2,LP outs),(6,.vptr 0 0),(8,.i t),(9,.i n),(12,.i T),(13,.i t)],[.vars [.i 0,.i 0]]⟩)
   (fun n=>inR n∧∀k,inR k→Gf I O k→n≤k) (fun n=>(1099511627777 - n).toNat) ?_ (-1099511627776) ⟨by unfold inR;omega,fun k hk _=>hk.1⟩
  rintro n ⟨hn,z1⟩ ih2;repeat first|(refine r_ ?_;simp)|refine q_ ?_
  refine Qc rfl rfl (by simp) (zc n) rfl ?_;rintro _ rfl;simp;have z8:=zm n;have zd:(∀k,inR k→¬Gf I O k)→∀t',t'<t+1→∀k,¬PM P t' k:=fun h t' zo k=>by
   by_cases e:t'=t
   ·subst e;exact zf h k
   ·exact hb t' (by omega) k
  cases hx:y1r I O n with
  |none=>
   rw[hx]at z8;simp only at z8;simp[q1g];repeat first|(refine r_ ?_;simp)|refine q_ ?_
   refine Qa rfl (fun _=> ?_) (fun h=>by simp at h);repeat first|(refine r_ ?_;simp[hw])|refine q_ ?_
   refine Qb (sl':=[(1,LP ins),(2,LP outs),(6,.vptr 0 0),(12,.i T),(13,.i (t+1:Nat))]) ?_ (by simp);exact ih (t+1) ⟨by omega,zd fun k hk hg=>z8 k (z1 k hk hg) hg⟩ (by omega)
  |some m=>
   rw[hx]at z8;simp only at z8;obtain⟨s1,s2,s3⟩:=z8;simp[q1g];by_cases hm:m≤1099511627776
   ·repeat first|(refine r_ ?_;simp[hm])|refine q_ ?_
    refine Qa rfl (fun h=>by simp[hm]at h) (fun _=> ?_);repeat first|(refine r_ ?_;simp)|refine q_ ?_
    refine Qa rfl (fun h=> ?_) (fun h=> ?_)
    ·have e:m=n:=by simpa using h
     have zg:=z7 n hn (s3 e) z1;subst zg;repeat first|(refine r_ ?_;simp)|refine q_ ?_
     simp[q19,encSy]
    ·have e:m≠n:=by simpa using h
     repeat first|(refine r_ ?_;simp)|refine q_ ?_
     refine Qb (sl':=[(1,LP ins),(2,LP outs),(6,.vptr 0 0),(8,.i t),(9,.i m),(12,.i T),(13,.i t)]) ?_ (by simp);exact ih2 m ⟨⟨by have:=hn.1;omega,hm⟩,fun k hk hg=>s2 k (z1 k hk hg) hg⟩ (by have:=hn.1;omega)
   ·repeat first|(refine r_ ?_;simp[hm])|refine q_ ?_
    refine Qa rfl (fun _=> ?_) (fun h=>by simp[hm]at h);repeat first|(refine r_ ?_;simp[hw])|refine q_ ?_
    refine Qb (sl':=[(1,LP ins),(2,LP outs),(6,.vptr 0 0),(12,.i T),(13,.i (t+1:Nat))]) ?_ (by simp);exact ih (t+1) ⟨by omega,zd fun k hk hg=>hm (Int.le_trans (s2 k (z1 k hk hg) hg) hk.2)⟩ (by omega)
 ·have zh:t=T:=by simp at zl;omega
  subst zh;have zg:=zb hb;subst zg;repeat first|(refine r_ ?_;simp)|refine q_ ?_
  simp[q19,encSy]
end Go.Abs
namespace Go.Abs
open Go Go.Proofs Go.Maps Go.RowKit
section
variable {P:Program} [Env P] {nt k:Nat} {ops:Array Oper} {o:Oper} {R:AS→Prop}
theorem C5{wr:Bool}{sl:List (Nat×AV)}{H:List AObj}(i:Nat){e c:Nat}{xs:List AV}(hi:H[i]? =some (.arr e c xs))(h:Wm P nt k wr ops o ⟨sl,H.set i (.arr e c (xs.map AV.nrm))⟩ R):Wm P nt k wr ops o ⟨sl,H⟩ R:=
 fun C a w K Q hs=>h C a w K Q (hs.swap hi rfl (fun _ _=>Uq.nrmArr))
end
def Wt(s:Int):Option Mv→AV
 |some m=>encMv m
 |none=> .agg [.i s,.i (-1),.list []]
theorem N8{a:Aut}{s:Int}{j:Nat}(h:j<a.mv.length):(a.mv.take (j+1)).filter (fun m=>decide (m.src=s))=(a.mv.take j).filter (fun m=>decide (m.src=s))++(if a.mv[j].src=s then [a.mv[j]]else []):=by
 rw[zJ h,List.filter_append]
 congr 1
 by_cases e:a.mv[j].src=s<;>simp[e]
theorem z2t(a:Aut)(s:Int)(j:Nat):((a.mv.take j).filter fun m=>decide (m.src=s)).length≤a.mv.length:=Nat.le_trans (vE _ _) (by rw[yY];omega)
theorem Fq(a:Aut)(s:Int)(zm:a.mv.length≤1000000):PC Tryz.prog 191 [encA a,.i s] (fun r=>r= .list ((Wi a s).map (Wt s))):=by
 refine Qh tOk Tryz.func191 rfl Tryz.results191 rfl (by simp[Tryz.ntmps191]) ?_;rw[Tryz.ntmps191];simp only[Qe];simp only[encA];refine Wd 0 2 rfl rfl (fun hlen=> ?_);rw[zV]at hlen;repeat first|(refine r_ ?_;simp)|refine q_ ?_
 have zc:=fun j (h:j<a.mv.length)=>N8 (a:=a) (s:=s) h;have zd:=fun j=>z2t a s j;refine Q6 5 73 3 rfl ?_;simp;obtain⟨K,hK⟩:∃K,K=[AObj.vars (Qp a)]:=⟨_,rfl⟩
 have hst:=SL.start K 73 3;refine Ql (Qb (sl':=[(1,.i s),(5,.sl 1 3 0 ((a.mv.take 0).filter fun m=>decide (m.src=s)).length),(9,.list (a.mv.map encMv)),(10,.i a.mv.length),(11,.i (0:Nat))]) ?_ (by simp));refine Qm (P:=Tryz.prog) (F:=fun(u:Nat×Nat×List AObj)=>⟨[(1,.i s),(5,.sl u.2.1 3 0 ((a.mv.take u.1).filter fun m=>decide (m.src=s)).length),(9,.list (a.mv.map encMv)),(10,.i a.mv.length),(11,.i u.1)],u.2.2⟩)
  (fun u=>u.1≤a.mv.length∧SL K u.2.2 u.2.1 73 3 (((a.mv.take u.1).filter fun m=>decide (m.src=s)).map encMv)) (fun u=>a.mv.length - u.1) ?_ (0,1,_) ⟨xE _,by rw[hK]at hst ⊢;simpa using hst⟩
 rintro⟨j,q,G⟩ ⟨hj,g⟩ ih;simp only at hj g ih ⊢;have z8:=zd j;repeat first|(refine r_ ?_;simp)|refine q_ ?_
 refine Qa rfl (fun ze=> ?_) (fun zf=> ?_)
 ·have z1:j<a.mv.length:=by simpa using ze
  have hw:IntKind.i64.wrap ((j:Int)+1)=j+1:=wrap_i64 _ (by omega) (by omega);have zg:=zc j z1;have z6:=fun q' G'=>ih (j+1,q',G');simp only[zg]at z6;have za:(a.mv.map encMv)[j]? =some (encMv a.mv[j]):=by simp[z1]
  have zb:∀hh,(a.mv.map encMv)[j]'hh=encMv a.mv[j]:=fun hh=>by simp
  generalize a.mv[j]=m at *;generalize (a.mv.take j).filter (fun m=>decide (m.src=s))=P at *
  have z7:(P.map encMv).length=P.length:=by simp
  simp only[encMv]at za zb;repeat first|(refine r_ ?_;simp[za,zb,z1])|refine q_ ?_
  refine Qa rfl (fun h=> ?_) (fun h=> ?_)
  ·have e:m.src=s:=by simpa using h
   rw[if_pos e]at z6;repeat first|(refine r_ ?_;simp)|refine q_ ?_
   refine Qf tOk rfl rfl T23 rfl T73 rfl (by decide) (by decide) rfl rfl rfl ?_;simp[Qd g.arr,Qk g.arr,z7];refine⟨by simp[Wu,Qd g.arr,Qk g.arr,z7]<;>omega,?_⟩;repeat first|(refine r_ ?_;simp[hw])|refine q_ ?_
   refine Qb (sl':=[(1,.i s),(5,.sl (G.length+2) 3 0 (P++[m]).length),(9,.list (a.mv.map encMv)),(10,.i a.mv.length),(11,.i (j+1:Nat))]) ?_ (by simp);have:=z6 (G.length+2) _ ⟨by omega,g.put [AObj.vars [.i m.src,.i m.dst,.list (m.on.map encL)],AObj.arr 73 3 [encMv m]] ((P++[m]).map encMv) rfl⟩ (by omega);simpa[encMv]using this
  ·have e:m.src≠s:=by simpa using h
   rw[if_neg e,xQ]at z6;repeat first|(refine r_ ?_;simp[hw])|refine q_ ?_
   refine Qb (sl':=[(1,.i s),(5,.sl q 3 0 P.length),(9,.list (a.mv.map encMv)),(10,.i a.mv.length),(11,.i (j+1:Nat))]) ?_ (by simp);exact z6 q _ ⟨by omega,g.add _⟩ (by omega)
 ·have zh:j=a.mv.length:=by simp at zf;omega
  subst zh;have zi:a.mv.take a.mv.length=a.mv:=zX;rw[zi]at g z8 ⊢;have zj:a.mv.filter (fun m=>decide (m.src=s))=mvS a s:=rfl;have zk:(Wi a s).map (Wt s)=(mvS a s).map encMv++[.agg [.i s,.i (-1),.list []]]:=by unfold Wi;simp[Wt]
  rw[zk];rw[zj]at g z8 ⊢;generalize mvS a s=P at *
  have z7:(P.map encMv).length=P.length:=by simp
  repeat first|(refine r_ ?_;simp)|refine q_ ?_
  refine C5 G.length (e:=73) (c:=3) (xs:=[.agg [.i s,.i (-1),.nils]]) (by simp) ?_;have zl:∀u z:AObj,(G++[u]).set G.length z=G++[z]:=fun u z=>by rw[List.set_append_right _ _ (by simp)];simp
  simp[zl];refine Qf tOk rfl rfl T23 rfl T73 rfl (by decide) (by decide) rfl rfl rfl ?_;simp[Qd g.arr,Qk g.arr,z7];refine⟨by simp[Wu,Qd g.arr,Qk g.arr,z7]<;>omega,?_⟩;repeat first|(refine r_ ?_;simp)|refine q_ ?_
  rw[zM (by simp)]
theorem C8(a:Aut)(s:Int)(i:Nat)(o:Option Mv)(h:(Wi a s)[i]? =some o)(hl:a.mv.length≤1000000):PC Tryz.prog 192 [.list ((Wi a s).map (Wt s)),.i i] (fun r=>r= .tup [LP (J7 o),LP (Ps a s o)]):=by
 refine Qh tOk Tryz.func192 rfl Tryz.results192 rfl (by simp[Tryz.ntmps192]) ?_;rw[Tryz.ntmps192];simp only[Qe];have zr:(mvS a s).length≤a.mv.length:=vE _ _;have zh:(Wi a s).length=(mvS a s).length+1:=by unfold Wi;simp
 have zi:i<(Wi a s).length:=(zA.1 h).1;have zj:IntKind.i64.wrap ((mvS a s).length:Int)=(mvS a s).length:=wrap_i64 _ (by omega) (by omega);repeat first|(refine r_ ?_;simp[zh,zj])|refine q_ ?_
 refine Qa rfl (fun zk=> ?_) (fun zl=> ?_)
 ·have z7:i<(mvS a s).length:=by simpa using zk
  obtain⟨m,rfl,z6⟩:∃m,o=some m∧((Wi a s).map (Wt s))[i]? =some (encMv m):=by unfold Wi at h ⊢;rw[zE (by simpa using z7)]at h;rw[zQ,zE (by simpa using z7),h];rw[zQ]at h;obtain⟨m,_,rfl⟩:=zL.1 h;exact⟨m,rfl,rfl⟩
  have z8:∀hh,((Wi a s).map (Wt s))[i]'hh=encMv m:=fun hh=>(xF hh).2 z6;generalize Wi a s=L at *;simp only[encMv]at z6 z8
  repeat first|(refine r_ ?_;simp[z6,z8,zi])|refine q_ ?_
  exact⟨rfl,rfl⟩
 ·have zm:i=(mvS a s).length:=by simp at zl;omega
  subst zm;obtain rfl:o=none:=by unfold Wi at h;rw[zC (by simp)]at h;simpa using h.symm
  have zn:((Wi a s).map (Wt s)).take (mvS a s).length=(mvS a s).map encMv:=by unfold Wi;rw[yM,List.take_append_of_le_length (by simp),zM (by simp)];simp[Wt]
  have hle:(mvS a s).length≤(Wi a s).length:=by omega
  repeat first|(refine r_ ?_;simp[hle])|refine q_ ?_
  rw[if_pos (fun o ho=>by cases o<;>rfl)];simp;rw[zn];have za:min (mvS a s).length (Wi a s).length=(mvS a s).length:=by omega
  rw[za];have zb:Ps a s none=(mvS a s).map (·.on):=rfl;rw[zb];generalize mvS a s=P at *;refine Q6 5 70 1 rfl ?_
  simp;repeat first|(refine r_ ?_;simp)|refine q_ ?_
  refine Ql (Qb (sl':=[(4,.nils),(5,.sl 0 1 0 (0:Nat)),(21,.list (P.map encMv)),(22,.i P.length),(23,.i (0:Nat))]) ?_ (by simp));refine Qm (P:=Tryz.prog) (F:=fun(u:Nat×Nat×List AObj)=>⟨[(4,.nils),(5,.sl u.2.1 1 0 u.1),(21,.list (P.map encMv)),(22,.i P.length),(23,.i u.1)],u.2.2⟩)
   (fun u=>u.1≤P.length∧u.2.2[u.2.1]? =some (.arr 70 1 ((P.take u.1).map fun m=>encP m.on))) (fun u=>P.length - u.1) ?_ (0,0,_) ⟨xE _,by simp⟩
  rintro⟨j,q,G⟩ ⟨hj,gq⟩ ih;simp only at hj gq ih ⊢;repeat first|(refine r_ ?_;simp)|refine q_ ?_
  refine Qa rfl (fun zc=> ?_) (fun zd=> ?_)
  ·have z1:j<P.length:=by simpa using zc
   have zo:IntKind.i64.wrap ((j:Int)+1)=j+1:=wrap_i64 _ (by omega) (by omega);have ze:(P.take (j+1)).map (fun m=>encP m.on)=(P.take j).map (fun m=>encP m.on)++[encP P[j].on]:=by rw[zJ z1,yM];rfl
   have zf:=fun q' G'=>ih (j+1,q',G');simp only[ze]at zf;have z6:(P.map encMv)[j]? =some (encMv P[j]):=by simp[z1]
   have z8:∀hh,(P.map encMv)[j]'hh=encMv P[j]:=fun hh=>by simp
   have zg:((P.take j).map fun m=>encP m.on).length=j:=by simp;omega
   clear ze;generalize (P.take j).map (fun m=>encP m.on)=acc at *
   generalize P[j]=m at *;simp only[encMv]at z6 z8
   repeat first|(refine r_ ?_;simp[z6,z8,z1])|refine q_ ?_
   refine Qf tOk rfl rfl T87 rfl T70 rfl (by decide) (by decide) rfl rfl rfl ?_;simp[Qd gq,Qk gq,zg];refine⟨by simp[Wu,Qd gq,Qk gq,zg]<;>omega,?_⟩;repeat first|(refine r_ ?_;simp[zo])|refine q_ ?_
   refine Qb (sl':=[(4,.nils),(5,.sl (G.length+2) 1 0 (j+1)),(21,.list (P.map encMv)),(22,.i P.length),(23,.i (j+1:Nat))]) ?_ (by simp);refine zf (G.length+2) _ ⟨by omega,?_⟩ (by omega);rw[zC (by simp)];simp[encP]
  ·have zp:j=P.length:=by simp at zd;omega
   subst zp;rw[zX]at gq;have zq:P.map (fun m=>encP m.on)=(P.map (·.on)).map encP:=by rw[List.map_map];rfl
   rw[zq]at gq;repeat first|(refine r_ ?_;simp[gq])|refine q_ ?_
   refine⟨rfl,?_⟩;rw[zM (by simp)]
end Go.Abs
namespace Go.Abs
open Go Go.Proofs Go.Maps Go.RowKit
attribute [simp] T25 T35
theorem q00(a b:Aut):PC Tryz.prog 126 [encA a,encA b] (fun r=>r= .i (Eo a b)):=by
 refine Qh tOk Tryz.func126 rfl Tryz.results126 rfl (by simp[Tryz.ntmps126]) ?_;rw[Tryz.ntmps126];simp only[Qe];have cA:=U5 a;have cB:=U5 b;simp only[encA]at cA cB ⊢;obtain⟨R,hR⟩:∃R,Eo a b=R:=⟨_,rfl⟩
 rw[hR];unfold Eo at hR;have w1:IntKind.i64.wrap 1=1:=by decide
 have w2:IntKind.i64.wrap 2=2:=by decide
 repeat first|(refine r_ ?_;simp)|refine q_ ?_
 refine Qr 2 (fun j=>j=0∨Wj a=0∧(j=1∨Wj b=0)) (fun j=>[(2,.vptr 0 0),(3,.vptr 1 0),(10,.sl 2 3 0 2),(11,.i (2:Nat)),(12,.i j)]) (fun _=>[.vars (Qp a),.vars (Qp b),.arr 25 3 [.agg (Qp a),.agg (Qp b)]]) rfl (by simp) (by simp) (by simp) (by simp) (.inl rfl) ?_;intro j hj hI ih;repeat first|(refine r_ ?_;simp)|refine q_ ?_
 refine Qa rfl (fun z8=> ?_) (fun za=> ?_)
 ·have z1:j<2:=by simp at z8;omega
  obtain rfl|rfl:j=0∨j=1:=by omega
  ·repeat first|(refine r_ ?_;simp)|refine q_ ?_
   refine Qc rfl rfl (by simp) (cA) rfl ?_;rintro _ rfl;simp;repeat first|(refine r_ ?_;simp)|refine q_ ?_
   refine Qa rfl (fun h=> ?_) (fun h=> ?_)
   ·rw[if_pos (by simpa using h)]at hR;subst hR;repeat first|(refine r_ ?_;simp)|refine q_ ?_
   ·repeat first|(refine r_ ?_;simp[w1])|refine q_ ?_
    refine Qo _ (ih z1 (.inr ⟨by simpa using h,.inl rfl⟩)) rfl (by simp) ?_ (by simp) (by simp);simp
  ·have h0:Wj a=0:=by rcases hI with h|h;exact absurd h (by decide);exact h.1
   rw[if_neg (by simpa using h0)]at hR;repeat first|(refine r_ ?_;simp)|refine q_ ?_
   refine Qc rfl rfl (by simp) (cB) rfl ?_;rintro _ rfl;simp;repeat first|(refine r_ ?_;simp)|refine q_ ?_
   refine Qa rfl (fun h=> ?_) (fun h=> ?_)
   ·rw[if_pos (by simpa using h)]at hR;subst hR;repeat first|(refine r_ ?_;simp)|refine q_ ?_
   ·repeat first|(refine r_ ?_;simp[w2])|refine q_ ?_
    refine Qo _ (ih z1 (.inr ⟨h0,.inr (by simpa using h)⟩)) rfl (by simp) ?_ (by simp) (by simp);simp
 ·have z6:j=2:=by simp at za;omega
  subst z6;have z7:Wj a=0∧Wj b=0:=by
   rcases hI with h|⟨h1,h2⟩
   ·exact absurd h (by decide)
   ·exact⟨h1,h2.elim (fun h=>absurd h (by decide)) id⟩
  rw[if_neg (by simpa using z7.1),if_neg (by simpa using z7.2)]at hR;repeat first|(refine r_ ?_;simp)|refine q_ ?_
  refine Qa rfl (fun h=> ?_) (fun h=> ?_)
  ·rw[if_pos (by simpa using h)]at hR;subst hR;repeat first|(refine r_ ?_;simp)|refine q_ ?_
  ·rw[if_neg (by simpa using h)]at hR;subst hR;repeat first|(refine r_ ?_;simp)|refine q_ ?_
theorem Ms{n j:Nat}(h:j≤n){p:Int→Bool}(hp:∀i:Nat,i<j→p i=true)(hn:j=n∨p j=false):(Wp n).all p=decide (j=n):=by
 rw[yV,zP,decide_eq_true_eq];constructor
 ·intro k;rcases hn with e|e
  ·exact e
  ·by_cases e2:j=n
   ·exact e2
   ·have:=k j (Wq.2 ⟨by omega,by omega⟩);rw[e]at this;cases this
 ·intro e z hz;obtain⟨h0,h1⟩:=Wq.1 hz;obtain⟨i,rfl⟩:=Int.eq_ofNat_of_zero_le h0;exact hp i (by omega)
def onF(a:Aut)(s:Int)(j:Nat):List Prd:=((a.mv.take j).filter fun m=>decide (m.src=s)).map (·.on)
theorem d0y(a:Aut)(s:Int):onF a s 0=[]:=by simp[onF]
theorem c0r(a:Aut)(s:Int){j:Nat}(h:j<a.mv.length):onF a s (j+1)=onF a s j++(if a.mv[j].src=s then [a.mv[j].on]else []):=by
 unfold onF;rw[N8 h,yM]
 congr 1
 split<;>rfl
theorem k1t(a:Aut)(s:Int):onF a s a.mv.length=Ps a s none:=by unfold onF;rw[zX];rfl
theorem v1o(a:Aut)(s:Int)(j:Nat):(onF a s j).length≤a.mv.length:=by unfold onF;rw[zV];exact z2t a s j
theorem y12(y:Option Sy):q19 y= .tup [.agg [.i (y.getD ⟨0,0⟩).ty,.i (y.getD ⟨0,0⟩).num],.bool y.isSome]:=by cases y<;>rfl
attribute [local irreducible] x1a Zy Vx onF
theorem Mm(a:Aut)(ha:OkA a):PC Tryz.prog 134 [encA a] (fun r=>r= .bool (Hp a)):=by
 refine Qh tOk Tryz.func134 rfl Tryz.results134 rfl (by simp[Tryz.ntmps134]) ?_;rw[Tryz.ntmps134];simp only[Qe];have zi:=ha.fin;have zj:=ha.mvs;have hd:x1a a=(Lc a,0):=by unfold x1a;rw[if_pos ((Oc a).2 ha)]
 have cD:=f1b a;rw[hd]at cD;simp only[encA]at cD ⊢;have hL:=fun k:Int=>Vk a.types.toNat (by have:=ha.types;omega) [] (Ps a k none) (fun p h=>by cases h) (fun p hp=>by
  obtain⟨m,hm,rfl⟩:=zN.1 hp;exact(ha.mv m (Rh.1 hm).1).on) (Vx a k none) (Bl ha (Uf.2 (.inl rfl)))
 have zk:((a.types.toNat:Nat):Int)=a.types:=by have:=ha.types;omega
 simp only[zk,y12]at hL;have zl:∀k,Cb a k=(Zy (Vx a k none)).isSome:=fun _=>rfl;have z8:=k1t a;have zm:Hp a=(Lc a && (Wp a.fin.length).all fun s=> !Cb a s):=rfl;rw[zm];have zn:=fun k j (h:j<a.mv.length)=>c0r a k h;have zo:=fun k j=>v1o a k j;have hz:=d0y a;repeat first|(refine r_ ?_;simp)|refine q_ ?_
 refine Qc rfl rfl (by simp) (cD) rfl ?_;rintro _ rfl;simp;repeat first|(refine r_ ?_;simp)|refine q_ ?_
 cases hsg:Lc a with
 |false=>
  repeat first|(refine r_ ?_;simp)|refine q_ ?_
  refine Qa rfl (fun _=> ?_) (fun h=>by simp at h);repeat (first|(refine r_ ?_;simp)|refine q_ ?_)
 |true=>
  repeat first|(refine r_ ?_;simp)|refine q_ ?_
  refine Qa rfl (fun h=>by simp at h) (fun _=> ?_);repeat first|(refine r_ ?_;simp)|refine q_ ?_
  refine Ql (Qb (sl':=[(1,.vptr 0 0),(24,.i a.fin.length),(25,.i (0:Nat))]) ?_ (by simp));refine Qm (P:=Tryz.prog) (F:=fun(u:Nat×List AObj)=>⟨[(1,.vptr 0 0),(24,.i a.fin.length),(25,.i u.1)],u.2⟩)
   (fun u=>u.1≤a.fin.length∧(∀i:Nat,i<u.1→(!Cb a i)=true)∧u.2[0]? =some (.vars (Qp a))) (fun u=>a.fin.length - u.1) ?_ (0,_) ⟨xE _,fun i h=>absurd h (tv _),rfl⟩
  rintro⟨k,G⟩ ⟨hk,hI,g0⟩ ih;simp only at hk hI g0 ih ⊢;repeat first|(refine r_ ?_;simp)|refine q_ ?_
  refine Qa rfl (fun zp=> ?_) (fun zq=> ?_)
  ·have zr:k<a.fin.length:=by simpa using zp
   have hw:IntKind.i64.wrap ((k:Int)+1)=k+1:=wrap_i64 _ (by omega) (by omega);have zt:=zn k;have zu:=zo k;have zv:=hL k;repeat first|(refine r_ ?_;simp[g0])|refine q_ ?_
   refine Q6 6 70 1 rfl ?_;simp;have hst:=SL.start G 70 1;refine Ql (Qb (sl':=[(1,.vptr 0 0),(5,.i k),(6,.sl G.length 1 0 (onF a k 0).length),(24,.i a.fin.length),(25,.i k),(29,.list (a.mv.map encMv)),(30,.i a.mv.length),(31,.i (0:Nat))]) ?_ (by simp[hz]));refine Qm (P:=Tryz.prog) (F:=fun(u:Nat×Nat×List AObj)=>⟨[(1,.vptr 0 0),(5,.i k),(6,.sl u.2.1 1 0 (onF a k u.1).length),(24,.i a.fin.length),(25,.i k),(29,.list (a.mv.map encMv)),(30,.i a.mv.length),(31,.i u.1)],u.2.2⟩)
    (fun u=>u.1≤a.mv.length∧SL G u.2.2 u.2.1 70 1 ((onF a k u.1).map encP)) (fun u=>a.mv.length - u.1) ?_ (0,G.length,_) ⟨xE _,by rw[hz];simpa using hst⟩
   rintro⟨j,q,E⟩ ⟨hj,g⟩ ih2;simp only at hj g ih2 ⊢;have zw:=zu j;repeat first|(refine r_ ?_;simp)|refine q_ ?_
   refine Qa rfl (fun za=> ?_) (fun zb=> ?_)
   ·have z1:j<a.mv.length:=by simpa using za
    have ze:IntKind.i64.wrap ((j:Int)+1)=j+1:=wrap_i64 _ (by omega) (by omega);have zx:=zt j z1;have z6:=fun q' G'=>ih2 (j+1,q',G');simp only[zx]at z6;have zf:(a.mv.map encMv)[j]? =some (encMv a.mv[j]):=by simp[z1]
    have zg:∀hh,(a.mv.map encMv)[j]'hh=encMv a.mv[j]:=fun hh=>by simp
    generalize a.mv[j]=m at *;generalize onF a k j=P at *
    have z7:(P.map encP).length=P.length:=by simp
    simp only[encMv]at zf zg;repeat first|(refine r_ ?_;simp[zf,zg,z1])|refine q_ ?_
    refine Qa rfl (fun h=> ?_) (fun h=> ?_)
    ·have e:m.src=k:=by simpa using h
     rw[if_pos e]at z6;repeat first|(refine r_ ?_;simp)|refine q_ ?_
     refine Qf tOk rfl rfl T87 rfl T70 rfl (by decide) (by decide) rfl rfl rfl ?_;simp[Qd g.arr,Qk g.arr,z7];refine⟨by simp[Wu,Qd g.arr,Qk g.arr,z7]<;>omega,?_⟩;repeat first|(refine r_ ?_;simp[ze])|refine q_ ?_
     refine Qb (sl':=[(1,.vptr 0 0),(5,.i k),(6,.sl (E.length+2) 1 0 (P++[m.on]).length),(24,.i a.fin.length),(25,.i k),(29,.list (a.mv.map encMv)),(30,.i a.mv.length),(31,.i (j+1:Nat))]) ?_ (by simp);have:=z6 (E.length+2) _ ⟨by omega,g.put [AObj.vars [.i m.src,.i m.dst,.list (m.on.map encL)],AObj.arr 70 1 [encP m.on]] ((P++[m.on]).map encP) rfl⟩ (by omega);simpa[encP]using this
    ·have e:m.src≠k:=by simpa using h
     rw[if_neg e,xQ]at z6;repeat first|(refine r_ ?_;simp[ze])|refine q_ ?_
     refine Qb (sl':=[(1,.vptr 0 0),(5,.i k),(6,.sl q 1 0 P.length),(24,.i a.fin.length),(25,.i k),(29,.list (a.mv.map encMv)),(30,.i a.mv.length),(31,.i (j+1:Nat))]) ?_ (by simp);exact z6 q _ ⟨by omega,g.add _⟩ (by omega)
   ·have zy:j=a.mv.length:=by simp at zb;omega
    subst zy;rw[z8]at g zw ⊢;have e0:=g.kp g0;have z7:((Ps a k none).map encP).length=(Ps a k none).length:=by simp
    have zc:((Ps a k none).map encP).take (Ps a k none).length=(Ps a k none).map encP:=zM (by simp);have zh:=zl k;generalize Zy (Vx a k none)=Y at *;generalize Ps a k none=P at *
    repeat first|(refine r_ ?_;simp[e0])|refine q_ ?_
    refine Yg rfl rfl (by first|(simp[g.arr,zc,z7];done)|(simp[g.arr,zc,z7];rfl)) (zv) rfl ?_;rintro _ rfl;refine⟨by first|simp|rfl|trivial,?_⟩;simp[g.arr,zc,z7];cases Y with
    |some y=>
     have hf:(Wp a.fin.length).all (fun s=> !Cb a s)=false:=by rw[Ms (j:=k) (by omega) hI (.inr (by rw[zh];rfl))];simp;omega
     rw[hf];repeat first|(refine r_ ?_;simp)|refine q_ ?_
     refine Qa rfl (fun _=> ?_) (fun h=>by simp at h);repeat (first|(refine r_ ?_;simp)|refine q_ ?_)
    |none=>
     repeat first|(refine r_ ?_;simp)|refine q_ ?_
     refine Qa rfl (fun h=>by simp at h) (fun _=> ?_);repeat first|(refine r_ ?_;simp[hw])|refine q_ ?_
     refine Qb (sl':=[(1,.vptr 0 0),(24,.i a.fin.length),(25,.i (k+1:Nat))]) ?_ (by simp);refine ih (k+1,_) ⟨by omega,fun i hi=> ?_,Qd e0 _⟩ (by omega);by_cases e:i=k
     ·subst e;rw[zh];rfl
     ·exact hI i (by omega)
  ·have zd:k=a.fin.length:=by simp at zq;omega
   subst zd;have hf:(Wp a.fin.length).all (fun s=> !Cb a s)=true:=by rw[Ms (zI _) hI (.inl rfl)];simp
   rw[hf];repeat first|(refine r_ ?_;simp)|refine q_ ?_
attribute [local irreducible] Eo Hp
theorem Jp(a b:Aut):PC Tryz.prog 69 [encA a,encA b] (fun r=>r= .i (E8 a b)):=by
 refine Qh tOk Tryz.func69 rfl Tryz.results69 rfl (by simp[Tryz.ntmps69]) ?_;rw[Tryz.ntmps69];simp only[Qe];obtain⟨R,hR⟩:∃R,E8 a b=R:=⟨_,rfl⟩
 rw[hR];rw[q09]at hR;have cB:=q00 a b;have z6:Eo a b=0→OkA a∧OkA b:=fun h=>⟨(Ui.1 h).1,(Ui.1 h).2.1⟩
 simp only[encA]at cB ⊢;repeat first|(refine r_ ?_;simp)|refine q_ ?_
 refine Qc rfl rfl (by simp) (cB) rfl ?_;rintro _ rfl;simp;repeat first|(refine r_ ?_;simp)|refine q_ ?_
 refine Qa rfl (fun h=> ?_) (fun h=> ?_)
 ·repeat first|(refine r_ ?_;simp)|refine q_ ?_
  have h':Eo a b≠0:=by simpa using h
  rw[if_pos h']at hR;exact hR
 have h':¬Eo a b≠0:=by simpa using h
 rw[if_neg h']at hR;obtain⟨ha,hb⟩:=z6 (by simpa using h);have cF:=Mm a ha;have cG:=Mm b hb;simp only[encA]at cF cG;repeat first|(refine r_ ?_;simp)|refine q_ ?_
 refine Qc rfl rfl (by simp) (cF) rfl ?_;rintro _ rfl;simp;cases z1:Hp a with
 |true=>
  repeat first|(refine r_ ?_;simp)|refine q_ ?_
  refine Qc rfl rfl (by simp) (cG) rfl ?_;rintro _ rfl;simp;cases hfb:Hp b with
  |true=>
   repeat first|(refine r_ ?_;simp)|refine q_ ?_
   refine Qa rfl (fun h=>by simp at h) (fun _=> ?_);repeat first|(refine r_ ?_;simp)|refine q_ ?_
   rw[←hR,z1,hfb];rfl
  |false=>
   repeat first|(refine r_ ?_;simp)|refine q_ ?_
   refine Qa rfl (fun _=> ?_) (fun h=>by simp at h);repeat first|(refine r_ ?_;simp)|refine q_ ?_
   rw[←hR,z1,hfb];rfl
 |false=>
  repeat first|(refine r_ ?_;simp)|refine q_ ?_
  refine Qx rfl rfl ?_;simp;repeat first|(refine r_ ?_;simp)|refine q_ ?_
  refine Qa rfl (fun _=> ?_) (fun h=>by simp at h);repeat first|(refine r_ ?_;simp)|refine q_ ?_
  rw[←hR,if_pos (.inl z1)]
theorem Vc(a:Aut)(s:Int)(hs:inD a s):PC Tryz.prog 127 [encA a,.i s] (fun r=>r= .bool (q0q a s)):=by
 refine Qh tOk Tryz.func127 rfl Tryz.results127 rfl (by simp[Tryz.ntmps127]) ?_;rw[Tryz.ntmps127];simp only[Qe];simp only[encA];unfold q0q;by_cases h1:s= -1
 ·subst h1;repeat first|(refine r_ ?_;simp)|refine q_ ?_
 ·have hr:inS a s:=hs.resolve_left h1;obtain⟨k,rfl⟩:∃k:Nat,s=k:=⟨s.toNat,(k0s hr).2.symm⟩
  have hk:k<a.fin.length:=by have:=hr.2;omega
  have z1:((k:Int)== -1)=false:=by simp
  have z6:a.fin.getD k false=a.fin[k]:=by simp[yR,hk]
  repeat first|(refine r_ ?_;simp[z1,hk])|refine q_ ?_
end Go.Abs
