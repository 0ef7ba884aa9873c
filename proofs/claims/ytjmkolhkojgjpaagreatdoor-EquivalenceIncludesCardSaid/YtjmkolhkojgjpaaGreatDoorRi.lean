/- Part Ri of the proof: an abstract machine over the model, and what the functions of the program hand back in its terms. No condition. -/
import Derived.Test.YtjmkolhkojgjpaaGreatDoorRh
import Derived.Test.YtjmkolhkojgjpaaGreatDoorRf
import Derived.Test.YtjmkolhkojgjpaaGreatDoorRc
import Derived.Test.YtjmkolhkojgjpaaGreatDoorRg
import Derived.DeepKeys4
import Derived.Test.YtjmkolhkojgjpaaGreatDoorRe
set_option linter.all false
open List renaming mem_append→zO,mem_singleton→zJ,mem_cons→zU,range_succ→wT,take_succ_eq_append_getElem→zL,getElem_mem→zG,mem_filter→wC,filter_congr→ta,map_cons→yO,map_map→uZ,mem_map→zM,length_map→zV,map_append→yG,map_nil→xO,mem_of_getElem?→zF,range→yA,any_eq_true→xN,mem_range→yM,getElem_eq_iff→yT,take_length→zZ,getD→yQ,take_of_length_le→zI,getElem?_append_left→zE,getElem?_eq_some_iff→zA,getElem?_append_right→zC,getElem?_eq_getElem→zD,map→yI,getElem?_set_self→zH,getElem?_set_ne→zB,getElem?_map→zQ,ext_getElem?→xD,getElem?_eq_none→xE,drop_length→yU,length_filter_le→wU,append_nil→xV
open Bool renaming eq_iff_iff→yX,and_eq_true→zR
open Int renaming eq_ofNat_of_zero_le→uE
open Prod renaming ext_iff→tD,ext→tI
open Nat renaming le_refl→zK,zero_le→xA,not_lt_zero→tB
open Option renaming map_eq_some_iff→zN
set_option maxHeartbeats 16000000
set_option linter.unusedSimpArgs false
set_option maxRecDepth 100000
namespace Go.Abs
def adQ(l:List (Int×Int))(t:Int×Int):List (Int×Int):=if t∈l then l else l++[t]
theorem c16{l:List (Int×Int)}{t:Int×Int}(h:t∈l):adQ l t=l:=if_pos h
theorem j1y{l:List (Int×Int)}{t:Int×Int}(h:t∉l):adQ l t=l++[t]:=if_neg h
theorem v1p{l:List (Int×Int)}{t s:Int×Int}:s∈adQ l t↔s∈l∨s=t:=by
 unfold adQ;by_cases h:t∈l
 ·rw[if_pos h];exact⟨.inl,fun k=>k.elim id fun e=>e▸h⟩
 ·rw[if_neg h,zO,zJ]
theorem X8{s:Int×Int}:∀(ys l:List (Int×Int)),s∈ys.foldl adQ l↔s∈l∨s∈ys
 |[],l=>by simp
 |y::ys,l=>by
  rw[List.foldl_cons,X8 ys,v1p,zU];constructor
  ·rintro((h|h)|h)
   ·exact .inl h
   ·exact .inr (.inl h)
   ·exact .inr (.inr h)
  ·rintro(h|h|h)
   ·exact .inl (.inl h)
   ·exact .inl (.inr h)
   ·exact .inr h
def y23(a b:Aut)(s:Int×Int):List (Int×Int):=(Wt a b).map fun x=>Tt a b s x
def w2g(a b:Aut)(s:Int×Int):List (Int×Int):=(y23 a b s).foldl adQ []
def y2v(a b:Aut):Nat→Nat→List (Int×Int)→List (Int×Int)
 |0,_,l=>l
 |f+1,n,l=>match l[n]? with
  |none=>l
  |some s=>y2v a b f (n+1) ((y23 a b s).foldl adQ l)
end Go.Abs
namespace Go.Abs
open Go Go.Proofs Go.Maps Go.RowKit
attribute [simp] T66 T41
def pqr(s:Int×Int):AV:= .agg [.i s.1,.i s.2]
abbrev LQp (l:List (Int×Int)):AV:= .list (l.map pqr)
theorem f1e(a b c d:Int):eqA T 9 66 (.agg [.int .i64 a,.int .i64 b]) (.agg [.int .i64 c,.int .i64 d])=some (a==c && b==d):=by simp[eqA,Oa,Sf,TI.agg,wT]
end Go.Abs
namespace Go.Abs
open Go Go.Proofs Go.Maps Go.RowKit
attribute [local irreducible] Wt toL
end Go.Abs
namespace Go.Abs
open Go Go.Proofs Go.Maps Go.RowKit
structure QInv (a b:Aut) (l:List (Int×Int)):Prop where
 nd:l.Nodup
 rg:∀s∈l,inD a s.1∧inD b s.2
theorem g1g(l:List (Int×Int)):(Tw l).length=l.length:=(List.mergeSort_perm l pLe).length_eq
attribute [local irreducible] Wt toL w2g y2v Tw
end Go.Abs
namespace Go.Abs
open Go Go.Proofs Go.Maps Go.RowKit
attribute [simp] T43
theorem w10(a b:Aut):PC Tryz.prog 40 [encA a,encA b] (fun r=>r= .i (Ev a b)):=by
 refine Qh tOk Tryz.func40 rfl Tryz.results40 rfl (by simp[Tryz.ntmps40]) ?_;rw[Tryz.ntmps40];simp only[Qe];have cA:=I9 a;have cB:=I9 b;simp only[encA]at cA cB ⊢;obtain⟨R,hR⟩:∃R,Ev a b=R:=⟨_,rfl⟩
 rw[hR];unfold Ev at hR;repeat first|(refine r_ ?_;simp)|refine q_ ?_
 refine Qd rfl rfl (by simp) (cA) rfl ?_;rintro _ rfl;simp;repeat first|(refine r_ ?_;simp)|refine q_ ?_
 refine Qa rfl (fun h=> ?_) (fun h=> ?_)
 ·rw[if_pos (by simpa using h)]at hR;repeat first|(refine r_ ?_;simp)|refine q_ ?_
  exact hR
 rw[if_neg (by simpa using h)]at hR;repeat first|(refine r_ ?_;simp)|refine q_ ?_
 refine Qd rfl rfl (by simp) (cB) rfl ?_;rintro _ rfl;simp;repeat first|(refine r_ ?_;simp)|refine q_ ?_
 refine Qa rfl (fun h2=> ?_) (fun h2=> ?_)
 ·rw[if_pos (by simpa using h2)]at hR;repeat first|(refine r_ ?_;simp)|refine q_ ?_
  exact hR
 rw[if_neg (by simpa using h2)]at hR;repeat first|(refine r_ ?_;simp)|refine q_ ?_
 refine Qa rfl (fun h3=> ?_) (fun h3=> ?_)
 ·rw[if_pos (by simpa using h3)]at hR;subst hR;repeat first|(refine r_ ?_;simp)|refine q_ ?_
 ·rw[if_neg (by simpa using h3)]at hR;subst hR;repeat first|(refine r_ ?_;simp)|refine q_ ?_
attribute [local irreducible] Ev Is
def v2q(a b:Aut)(l:List (Int×Int))(s:Int×Int):Bool:=Vn a b s && (w2g a b s).all fun t=>decide (t∈l)
theorem Mm{α:Type}{p:α→Bool}{l:List α}{j:Nat}(h:j<l.length)(h1:(l.take j).all p=true):(l.take (j+1)).all p=p l[j]:=by rw[zL h,List.all_append,h1];simp
theorem all_false{α:Type}{p:α→Bool}{l:List α}{j:Nat}(h:j<l.length)(h1:p l[j]=false):l.all p=false:=by rw[List.all_eq_false];exact⟨_,zG h,by rw[h1];simp⟩
attribute [local irreducible] w2g Vn
def My(x:EqC):AV:= .agg [.i x.verdict,LQp x.pairs,LSy x.word]
def q1k(a b:Aut)(x:EqC):Int:=if 2048<x.pairs.length∨4096<x.word.length then 5 else if x.pairs.all (fun s=>decide (inS a s.1∧inS b s.2))=false then 6 else V5 a.types x.word
theorem w1h(n:Nat)(z:Int):(z<0∧¬(0≤z∧z<(n:Int)))∨(¬z<0∧(n:Int)≤z∧¬(0≤z∧z<(n:Int)))∨(¬z<0∧¬(n:Int)≤z∧(0≤z∧z<(n:Int))):=by omega
attribute [local irreducible] F0
end Go.Abs
namespace Go.Abs
open Go Go.Proofs
def H6(n:Nat)(l:List Int):Prop:=(We n).filter (fun z=>decide (z∈l))=l
theorem H6.mem{n:Nat}{l:List Int}(h:H6 n l){z:Int}(hz:z∈l):0≤z∧z<n:=by unfold H6 at h;rw[←h]at hz;exact Wo.1 (wC.1 hz).1
theorem q0d(a:Aut)(l:List Int)(x:Sy):H6 a.fin.length (Qu a l x):=by
 unfold H6
 conv=>rhs;rw[Qu]
 refine ta fun z hz=> ?_;rw[yX,decide_eq_true_eq,Qu,wC];exact⟨fun h=>h.2,fun h=>⟨hz,h⟩⟩
theorem k1a{n:Nat}{l m:List Int}(hl:H6 n l)(hm:H6 n m)(h:∀z:Int,0≤z→z<n→(z∈l↔z∈m)):l=m:=by unfold H6 at hl hm;rw[←hl,←hm];refine ta fun z hz=> ?_;have:=Wo.1 hz;rw[decide_eq_decide];exact h z this.1 this.2
theorem w0n{n:Nat}(hn:0<n):H6 n [0]:=by
 unfold H6;obtain⟨k,rfl⟩:∃k,n=k+1:=⟨n - 1,by omega⟩
 unfold We;rw[List.range_succ_eq_map,yO,List.filter_cons,if_pos (by simp),uZ]
 congr 1
 rw[List.filter_eq_nil_iff];intro z hz;obtain⟨i,_,rfl⟩:=zM.1 hz;simp;omega
def O7(n:Nat)(l:List Int):List AV:=Yg n fun z=>decide (z∈l)
theorem P1(n:Nat)(l:List Int):(O7 n l).length=n:=Tu _ _
theorem Fm{n:Nat}{l:List Int}{i:Nat}(h:i<n):(O7 n l)[i]? =some (AV.bool (decide ((i:Int)∈l))):=A9 _ _ h
def Nv(n:Nat)(l m:List Int):Bool:=decide (∀i:Nat,i<n→decide ((i:Int)∈l)=decide ((i:Int)∈m))
theorem q0k{n:Nat}{l m:List Int}(hl:H6 n l)(hm:H6 n m):Nv n l m=decide (l=m):=by
 unfold Nv;rw[decide_eq_decide];constructor
 ·intro h;refine k1a hl hm fun z z0 z1=> ?_;obtain⟨k,rfl⟩:=uE z0;have:=h k (by omega)
  rwa [decide_eq_decide]at this
 ·rintro rfl i _;rfl
abbrev SQ:=SS×List Sy
structure SInv (na nb:Nat) (P Q:List (List Int)) (L:List SQ):Prop where
 nd:(L.map (·.1)).Nodup
 mem:∀e∈L,e.1∈Sx P Q
 can:∀e∈L,H6 na e.1.1∧H6 nb e.1.2
theorem SInv.len{na nb:Nat}{P Q:List (List Int)}{L:List SQ}(h:SInv na nb P Q L):L.length≤(P.length+1) * (Q.length+1):=by
 have e:L.length=(L.map (·.1)).length:=by rw[zV]
 rw[←Cv,e];refine Ix _ _ h.nd fun x hx=> ?_;obtain⟨e,he,rfl⟩:=zM.1 hx;exact h.mem e he
theorem SInv.add{na nb:Nat}{P Q:List (List Int)}{L:List SQ}(h:SInv na nb P Q L){s:SS}{w:List Sy}(hs:s∈Sx P Q)(hc:H6 na s.1∧H6 nb s.2)(hn:s∉L.map (·.1)):SInv na nb P Q (L++[(s,w)]):=by
 refine⟨?_,fun e he=> ?_,fun e he=> ?_⟩
 ·rw[yG,List.nodup_append];refine⟨h.nd,by simp,fun x hx y hy e=> ?_⟩;simp only[yO,xO,zJ]at hy;exact hn (by rw[←hy,←e];exact hx)
 ·rcases zO.1 he with he|he
  ·exact h.mem e he
  ·rw[zJ.1 he];exact hs
 ·rcases zO.1 he with he|he
  ·exact h.can e he
  ·rw[zJ.1 he];exact hc
structure SPQ (a b:Aut) (P Q:List (List Int)):Prop where
 lim:(P.length+1) * (Q.length+1)≤66049
 fst:(([0]:List Int),([0]:List Int))∈Sx P Q
 step:∀s∈Sx P Q,∀x,W2 a x→Je a b s x∈Sx P Q
theorem y0r{P Q:List (List Int)}{s:SS}(h:s∈Sx P Q):(s.1=[]∨s.1∈P)∧(s.2=[]∨s.2∈Q):=by unfold Sx at h;obtain⟨i,hi,h⟩:=List.mem_flatMap.1 h;obtain⟨j,hj,rfl⟩:=zM.1 h;exact⟨zU.1 hi,zU.1 hj⟩
theorem spq{a b x y:Aut}(ha:OkA a)(hb:OkA b)(ht:b.types=a.types)(da:Rl a=(0,x))(db:Rl b=(0,y)):∃P Q,SPQ a b P Q:=by
 obtain⟨P,_,hP,z1,_⟩:=Yu ha da;obtain⟨Q,_,hQ,z6,_⟩:=Yu hb db;have step:∀(c:Aut) (cl:List Prd) (Q:List (List Int)),Sub c cl Q→Cls c cl→∀(l:List Int) (z:Sy),W2 c z→(l=[]∨l∈Q)→(Qu c l z=[]∨Qu c l z∈Q):=fun c cl Q hs hc l z hz hl=>by
  rcases hl with rfl|hl
  ·exact .inl (D4 _ _)
  ·exact hs.step hc hl hz
 refine⟨P,Q,⟨?_,G3 (.inr (zF hP.first)) (.inr (zF hQ.first)),fun s hs z hz=> ?_⟩⟩
 ·have h1:=hP.lim;have h2:=hQ.lim;have:=Nat.mul_le_mul (show P.length+1≤257 by omega) (show Q.length+1≤257 by omega);omega
 ·have h:=y0r hs;exact G3 (step _ _ _ hP z1 _ _ hz h.1) (step _ _ _ hQ z6 _ _ ((Tb ht).2 hz) h.2)
theorem SInv.start{a b:Aut}(ha:OkA a)(hb:OkA b){P Q:List (List Int)}(h:SPQ a b P Q):SInv a.fin.length b.fin.length P Q [(([0],[0]),[])]:=by have:=ha.fin;have:=hb.fin;exact⟨by simp,fun e he=>by rw[zJ.1 he];exact h.fst,fun e he=>by rw[zJ.1 he];exact⟨w0n (by omega),w0n (by omega)⟩⟩
theorem c0e{a:Aut}{l:List Int}(hl:H6 a.fin.length l):Th a l=(yA a.fin.length).any fun i=>decide ((i:Int)∈l) && a.fin.getD i false:=by
 rw[yX];unfold Th;rw[xN,xN];constructor
 ·rintro⟨z,hz,h⟩;have hr:=hl.mem hz;refine⟨z.toNat,yM.2 (by omega),?_⟩;rw[show((z.toNat:Nat):Int)=z by omega,decide_eq_true hz,Bool.true_and];exact h
 ·rintro⟨i,hi,h⟩;rw[zR,decide_eq_true_eq]at h;exact⟨i,h.1,by simpa using h.2⟩
theorem q16(a b:Aut)(wn:Bool→Bool→Bool):k0j a b wn=Pq (Vq wn a b) (Rz a b) 66050 0 [(([0],[0]),[])]:=rfl
end Go.Abs
namespace Go.Abs
open Go Go.Proofs Go.Maps Go.RowKit
attribute [simp] y2y y2s
def Te(na nb:Nat)(e:SQ):AV:= .agg [.list (O7 na e.1.1),.list (O7 nb e.1.2),.list (e.2.map encSy)]
attribute [local irreducible] O7
theorem Hu{n:Nat}{l:List Int}{i:Nat}(h:i<n):∀hh,(O7 n l)[i]'hh=AV.bool (decide ((i:Int)∈l)):=fun hh=>(yT hh).2 (Fm h)
theorem F2(n:Nat)(hn:n≤1000000)(l m:List Int):PC Tryz.prog 216 [.list (O7 n l),.list (O7 n m)] (fun r=>r= .bool (Nv n l m)):=by
 refine Qh tOk Tryz.func216 rfl Tryz.results216 rfl (by simp[Tryz.ntmps216]) ?_;rw[Tryz.ntmps216];simp only[Qe];have z7:=P1 n l;have z8:=P1 n m;repeat first|(refine r_ ?_;simp)|refine q_ ?_
 refine Qs n (fun j=>∀i:Nat,i<j→decide ((i:Int)∈l)=decide ((i:Int)∈m)) (fun j=>[(0,.list (O7 n l)),(1,.list (O7 n m)),(5,.i j)]) (fun _=>[]) rfl (by simp) (by simp) (by simp) (by simp) (by simp) ?_;intro j hj hI ih;repeat first|(refine r_ ?_;simp[z7])|refine q_ ?_
 refine Qa rfl (fun za=> ?_) (fun zb=> ?_)
 ·have z1:j<n:=by simpa using za
  have hw:IntKind.i64.wrap ((j:Int)+1)=j+1:=wrap_i64 _ (by omega) (by omega);have a1:=Fm (l:=l) z1;have a2:=Fm (l:=m) z1;have b1:=Hu (l:=l) z1;have b2:=Hu (l:=m) z1;repeat first|(refine r_ ?_;simp)|refine q_ ?_
  refine Qn tOk mixed [] (.val 0 (.val 1 (.val 2 (.val 3 (.val 4 (.val 5 (.val 6 (.val 7 (.val 8 (.done)))))))))) rfl (by kernel_rfl) ?_;simp[a1,a2,b1,b2,z7,z8,z1];refine Qa rfl (fun h=> ?_) (fun h=> ?_)
  ·have hf:Nv n l m=false:=by unfold Nv;rw[decide_eq_false];intro k;have:=k j z1;simp[this]at h
   rw[hf];repeat first|(refine r_ ?_;simp)|refine q_ ?_
  ·repeat first|(refine r_ ?_;simp[hw])|refine q_ ?_
   refine Qr _ (ih z1 (fun i hi=> ?_)) rfl (by simp) ?_ (by simp) (by simp)
   ·by_cases e:i=j
    ·subst e;simpa using h
    ·exact hI i (by omega)
   ·simp
 ·have z6:j=n:=by simp at zb;omega
  subst z6;have hf:Nv j l m=true:=by unfold Nv;rw[decide_eq_true_eq];exact hI
  rw[hf];repeat first|(refine r_ ?_;simp)|refine q_ ?_
theorem q1x{L:List SQ}{s:SS}{j:Nat}(h:j<L.length):s∈(L.take (j+1)).map (·.1)↔s∈(L.take j).map (·.1)∨L[j].1=s:=by rw[zL h,yG,zO,yO,xO,zJ];exact⟨fun k=>k.imp id Eq.symm,fun k=>k.imp id Eq.symm⟩
theorem z13(na nb:Nat)(zc:na≤1000000)(zd:nb≤1000000)(L:List SQ)(hc:∀e∈L,H6 na e.1.1∧H6 nb e.1.2)(hl:L.length≤1000000)(p q:List Int)(hp:H6 na p)(hq:H6 nb q):PC Tryz.prog 157 [.list (L.map (Te na nb)),.list (O7 na p),.list (O7 nb q)] (fun r=>r= .bool (decide ((p,q)∈L.map (·.1)))):=by
 refine Qh tOk Tryz.func157 rfl Tryz.results157 rfl (by simp[Tryz.ntmps157]) ?_;rw[Tryz.ntmps157];simp only[Qe];repeat first|(refine r_ ?_;simp)|refine q_ ?_
 refine Qs L.length (fun j=>(p,q)∉(L.take j).map (·.1)) (fun j=>[(0,.list (L.map (Te na nb))),(1,.list (O7 na p)),(2,.list (O7 nb q)),(7,.i j)]) (fun _=>[]) rfl (by simp) (by simp) (by simp) (by simp) (by simp) ?_;intro j hj hI ih;repeat first|(refine r_ ?_;simp)|refine q_ ?_
 refine Qa rfl (fun ze=> ?_) (fun zf=> ?_)
 ·have z1:j<L.length:=by simpa using ze
  have hw:IntKind.i64.wrap ((j:Int)+1)=j+1:=wrap_i64 _ (by omega) (by omega);have z7:(L.map (Te na nb))[j]? =some (Te na nb L[j]):=by simp[z1]
  have z8:∀hh,(L.map (Te na nb))[j]'hh=Te na nb L[j]:=fun hh=>by simp
  have za:=q1x (s:=(p,q)) z1;obtain⟨k1,k2⟩:=hc _ (zG z1);have z6:L[j].1∈L.map (·.1):=zM.2 ⟨_,zG z1,rfl⟩;generalize L[j]=e at *
  obtain⟨⟨u,v⟩,w⟩:=e;simp only[Te]at z7 z8;simp only at k1 k2 za z6;repeat first|(refine r_ ?_;simp[z7,z8,z1])|refine q_ ?_
  have c1:=F2 na zc u p;have c2:=F2 nb zd v q;rw[q0k k1 hp]at c1;rw[q0k k2 hq]at c2;by_cases h1:u=p
  ·subst h1;refine Qd rfl rfl (by simp) (c1) rfl ?_;rintro _ rfl;simp[z7,z8,z1];by_cases h2:v=q
   ·subst h2;refine Qd rfl rfl (by simp) (c2) rfl ?_;rintro _ rfl;simp;repeat first|(refine r_ ?_;simp)|refine q_ ?_
    refine Qa rfl (fun _=> ?_) (fun h=>by simp at h);repeat first|(refine r_ ?_;simp)|refine q_ ?_
    obtain⟨d,hd,he⟩:=zM.1 z6;exact⟨d.2,by rw[←he];exact hd⟩
   ·refine Qd rfl rfl (by simp) (c2) rfl ?_;rintro _ rfl;simp[h2];repeat first|(refine r_ ?_;simp)|refine q_ ?_
    refine Qa rfl (fun h=>by simp at h) (fun _=> ?_);repeat first|(refine r_ ?_;simp[hw])|refine q_ ?_
    refine Qr _ (ih z1 (fun k=>(za.1 k).elim hI fun k=>h2 (tD.1 k).2)) rfl (by simp) ?_ (by simp) (by simp);simp
  ·refine Qd rfl rfl (by simp) (c1) rfl ?_;rintro _ rfl;simp[h1,z7,z8,z1];refine Wb rfl rfl ?_;simp;repeat first|(refine r_ ?_;simp)|refine q_ ?_
   refine Qa rfl (fun h=>by simp at h) (fun _=> ?_);repeat first|(refine r_ ?_;simp[hw])|refine q_ ?_
   refine Qr _ (ih z1 (fun k=>(za.1 k).elim hI fun k=>h1 (tD.1 k).1)) rfl (by simp) ?_ (by simp) (by simp);simp
 ·have zb:j=L.length:=by simp at zf;omega
  subst zb;rw[zZ]at hI;repeat first|(refine r_ ?_;simp)|refine q_ ?_
  exact fun x hx=>hI (zM.2 ⟨_,hx,rfl⟩)
theorem Xi(a:Aut)(ha:OkA a)(l:List Int)(hl:H6 a.fin.length l):PC Tryz.prog 156 [encA a,.list (O7 a.fin.length l)] (fun r=>r= .bool (Th a l)):=by
 refine Qh tOk Tryz.func156 rfl Tryz.results156 rfl (by simp[Tryz.ntmps156]) ?_;rw[Tryz.ntmps156];simp only[Qe];simp only[encA];have hf:=ha.fin;have z7:=P1 a.fin.length l;rw[c0e hl];obtain⟨R,z8⟩:∃R,((yA a.fin.length).any fun i=>decide ((i:Int)∈l) && a.fin.getD i false)=R:=⟨_,rfl⟩
 rw[z8];repeat first|(refine r_ ?_;simp)|refine q_ ?_
 refine Qs a.fin.length (fun j=>∀i:Nat,i<j→(decide ((i:Int)∈l) && a.fin.getD i false)=false) (fun j=>[(1,.list (O7 a.fin.length l)),(2,.vptr 0 0),(5,.i j)]) (fun _=>[.vars (Qp a)]) rfl (by simp) (by simp) (by simp) (by simp) (by simp) ?_;intro j hj hI ih;repeat first|(refine r_ ?_;simp[z7])|refine q_ ?_
 refine Qa rfl (fun zc=> ?_) (fun zd=> ?_)
 ·have z1:j<a.fin.length:=by simpa using zc
  have hw:IntKind.i64.wrap ((j:Int)+1)=j+1:=wrap_i64 _ (by omega) (by omega);have a1:=Fm (l:=l) z1;have b1:=Hu (l:=l) z1;have zb:a.fin.getD j false=a.fin[j]:=by simp[yQ,z1]
  have z6:(decide ((j:Int)∈l) && a.fin.getD j false)=false→∀i:Nat,i<j+1→(decide ((i:Int)∈l) && a.fin.getD i false)=false:=fun h i hi=>by
   by_cases e:i=j
   ·subst e;exact h
   ·exact hI i (by omega)
  by_cases hm:(j:Int)∈l
  ·repeat first|(refine r_ ?_;simp[a1,b1,z7,z1,hm])|refine q_ ?_
   refine Qa rfl (fun h=> ?_) (fun h=> ?_)
   ·have h':a.fin[j]=true:=by simpa using h
    have hR:((yA a.fin.length).any fun i=>decide ((i:Int)∈l) && a.fin.getD i false)=true:=xN.2 ⟨j,yM.2 z1,by rw[zb,h'];simpa using hm⟩;rw[←z8,hR];repeat first|(refine r_ ?_;simp)|refine q_ ?_
   ·have h':a.fin[j]=false:=by simpa using h
    repeat first|(refine r_ ?_;simp[hw])|refine q_ ?_
    refine Qr _ (ih z1 (z6 (by rw[zb,h',Bool.and_false]))) rfl (by simp) ?_ (by simp) (by simp);simp
  ·repeat first|(refine r_ ?_;simp[a1,b1,z7,z1,hm])|refine q_ ?_
   refine Qa rfl (fun h=>by simp at h) (fun h=> ?_);repeat first|(refine r_ ?_;simp[hw])|refine q_ ?_
   refine Qr _ (ih z1 (z6 (by simp[hm]))) rfl (by simp) ?_ (by simp) (by simp);simp
 ·have za:j=a.fin.length:=by simp at zd;omega
  subst za;have hR:((yA a.fin.length).any fun i=>decide ((i:Int)∈l) && a.fin.getD i false)=false:=List.any_eq_false.2 fun i hi=>by rw[hI i (yM.1 hi)];simp
  rw[←z8,hR];repeat first|(refine r_ ?_;simp)|refine q_ ?_
theorem v04{n:Nat}(h:0<n):(List.replicate n (AV.bool false)).set 0 (AV.bool true)=O7 n [0]:=by unfold O7;rw[Zr];have:=N6 n (fun _=>false) 0 (by omega) (by omega);rw[show(0:Int).toNat=0 from rfl]at this;rw[this];refine It n fun z=> ?_;rw[yX];simp
theorem Vi(a:Aut)(ha:OkA a):PC Tryz.prog 155 [encA a] (fun r=>r= .list (O7 a.fin.length [0])):=by
 refine Qh tOk Tryz.func155 rfl Tryz.results155 rfl (by simp[Tryz.ntmps155]) ?_;rw[Tryz.ntmps155];simp only[Qe];simp only[encA];have hf:=ha.fin;repeat first|(refine r_ ?_;simp)|refine q_ ?_
 refine Ef tOk rfl rfl rfl T22 rfl T4 rfl rfl rfl (n:=a.fin.length) (by simp;omega) (by unfold maxLen;omega) (.bool false) rfl ?_;simp;have z1:=v04 (n:=a.fin.length) (by omega);have z6:0<a.fin.length:=by omega
 repeat first|(refine r_ ?_;simp[z6,z1])|refine q_ ?_
 exact⟨by rw[P1];exact zK _,zI (by rw[P1];exact zK _)⟩
attribute [local irreducible] Ev Rl
theorem c0w(a b:Aut):PC Tryz.prog 88 [encA a,encA b] (fun r=>r= .i (Rm a b)):=by
 refine Qh tOk Tryz.func88 rfl Tryz.results88 rfl (by simp[Tryz.ntmps88]) ?_;rw[Tryz.ntmps88];simp only[Qe];have cB:=w10 a b;have cD:=Ia a;have cE:=Ia b;simp only[encA]at cB cD cE ⊢;obtain⟨R,hR⟩:∃R,Rm a b=R:=⟨_,rfl⟩
 rw[hR];unfold Rm at hR;repeat first|(refine r_ ?_;simp)|refine q_ ?_
 refine Qd rfl rfl (by simp) (cB) rfl ?_;rintro _ rfl;simp;repeat first|(refine r_ ?_;simp)|refine q_ ?_
 refine Qa rfl (fun h=> ?_) (fun h=> ?_)
 ·have h':Ev a b≠0:=by simpa using h
  rw[if_pos h']at hR;repeat first|(refine r_ ?_;simp)|refine q_ ?_
  exact hR
 have h':¬Ev a b≠0:=by simpa using h
 rw[if_neg h']at hR;repeat first|(refine r_ ?_;simp)|refine q_ ?_
 refine Qd rfl rfl (by simp) (cD) rfl ?_;rintro _ rfl;simp;repeat first|(refine r_ ?_;simp)|refine q_ ?_
 refine Qa rfl (fun h2=> ?_) (fun h2=> ?_)
 ·rw[if_pos (by simpa using h2)]at hR;repeat first|(refine r_ ?_;simp)|refine q_ ?_
  exact hR
 rw[if_neg (by simpa using h2)]at hR;repeat first|(refine r_ ?_;simp)|refine q_ ?_
 refine Qd rfl rfl (by simp) (cE) rfl ?_;rintro _ rfl;simp;repeat first|(refine r_ ?_;simp)|refine q_ ?_
 exact hR
end Go.Abs
namespace Go.Abs
open Go Go.Proofs Go.Maps Go.RowKit
theorem k09{σ:Type}[DecidableEq σ]{good:σ→Bool}{succ:σ→List (Sy×σ)}{f n:Nat}{L:List (σ×List Sy)}(h:L[n]? =none):Pq good succ f n L=(none,L):=by
 cases f with
 |zero=>rw[Pq]
 |succ f=>rw[Pq,h]
theorem j0j{σ:Type}[DecidableEq σ]{good:σ→Bool}{succ:σ→List (Sy×σ)}{f n:Nat}{L:List (σ×List Sy)}{s:σ}{w:List Sy}(h:L[n]? =some (s,w)):Pq good succ (f+1) n L=if good s=true then(some w,L)else Pq good succ f (n+1) (W6 L w (succ s)):=by rw[Pq,h]
theorem Bo{σ:Type}[DecidableEq σ](L:List (σ×List Sy))(w:List Sy)(e:Sy×σ)(es:List (Sy×σ)):W6 L w (e::es)=W6 (Mp L e.2 (w++[e.1])) w es:=rfl
theorem y03{σ:Type}[DecidableEq σ](L:List (σ×List Sy))(w:List Sy):W6 L w ([]:List (Sy×σ))=L:=rfl
theorem v1u{σ:Type}[DecidableEq σ](L:List (σ×List Sy))(t:σ)(w:List Sy):Mp L t w=if t∈L.map (·.1)then L else L++[(t,w)]:=rfl
theorem Bq{a b:Aut}{s:SS}{k:Nat}(h:k<(Wt a b).length):(Rz a b s).drop k=((Wt a b)[k],(Qu a s.1 (Wt a b)[k],Qu b s.2 (Wt a b)[k]))::(Rz a b s).drop (k+1):=by
 have hk:k<(Rz a b s).length:=by simpa[Rz]using h
 rw[List.drop_eq_getElem_cons hk];simp[Rz,Je]
theorem x02{a b:Aut}(s:SS):(Rz a b s).length=(Wt a b).length:=by simp[Rz]
theorem w0f(a:Aut)(ha:OkA a)(l:List Int)(x:Sy):PC Tryz.prog 153 [encA a,.list (O7 a.fin.length l),encSy x] (fun r=>r= .list (O7 a.fin.length (Qu a l x))):=by have h:=A5 a ha (fun z=>decide (z∈l)) x;rw[w27]at h;exact h
def WL(L:List SQ):Prop:=∀(i:Nat) (e:SQ),L[i]? =some e→e.2.length≤i
theorem WL.add{L:List SQ}(h:WL L){t:SS}{w:List Sy}(hw:w.length≤L.length):WL (L++[(t,w)]):=fun i e he=>by
 by_cases hi:i<L.length
 ·rw[zE hi]at he;exact h i e he
 ·have z1:=zA.1 he |>.1;have:i=L.length:=by simp at z1;omega
  subst this;rw[zC (zK _)]at he;simp at he;rw[←he];exact hw
theorem WL.start:WL [(([0],[0]),[])]:=fun i e he=>by
 have z1:=zA.1 he |>.1;have:i=0:=by simp at z1;omega
 subst this;simp at he;rw[←he];simp
def wnE(either:Bool):Bool→Bool→Bool:=if either then neB else d0y
theorem f1p(ei fa fb:Bool):wnE ei fa fb=((fb && !fa) || (ei && fa && !fb)):=by cases ei<;>cases fa<;>cases fb<;>rfl
attribute [local irreducible] Wt Qu Pq W6 Rz Th O7 wnE k0j
theorem v0o(a b:Aut)(ha:OkA a)(hb:OkA b)(ht:b.types=a.types)(P Q:List (List Int))(zk:SPQ a b P Q)(ei:Bool):PC Tryz.prog 89 [encA a,encA b,.bool ei] (fun r=>r=u1i (k0j a b (wnE ei)).1):=by
 refine Qh tOk Tryz.func89 rfl Tryz.results89 rfl (by simp[Tryz.ntmps89]) ?_;rw[Tryz.ntmps89];simp only[Qe];simp only[encA];have y8:=ha.fin;have y9:=hb.fin;have yu:=ha.mvs;have yw:=hb.mvs;have zm:=fun x hx=>z01 ha hb ht (x:=x) hx;have ya:=Nt ha hb ht;rw[q16];obtain⟨R,hR⟩:∃R,Pq (Vq (wnE ei) a b) (Rz a b) 66050 0 [((([0]:List Int),([0]:List Int)),([]:List Sy))]=R:=⟨_,rfl⟩
 rw[hR];have yb:∀s,(Rz a b s).length=(Wt a b).length:=fun s=>x02 s;have yc:=fun s k h=>Bq (a:=a) (b:=b) (s:=s) (k:=k) h;have cSa:=Vi a ha;have cSb:=Vi b hb;simp only[encA]at cSa cSb;repeat first|(refine r_ ?_;simp)|refine q_ ?_
 refine Qd rfl rfl (by simp) (Bv a b ha hb ht) rfl ?_;rintro _ rfl;simp;generalize Wt a b=ls at *
 repeat first|(refine r_ ?_;simp)|refine q_ ?_
 refine Qn tOk mixed [] (.val 0 (.val 2 (.one 1 (.one 3 (.val 4 (.one 5 (.val 6 (.done)))))))) rfl (by kernel_rfl) ?_;simp;refine Qd rfl rfl (by simp) (cSa) rfl ?_;rintro _ rfl;simp;refine Qd rfl rfl (by simp) (cSb) rfl ?_;rintro _ rfl;simp;repeat first|(refine r_ ?_;simp)|refine q_ ?_
 have yd:=SInv.start ha hb zk;have ye:=zk.lim;refine x01 2 rfl ?_;simp[AV.nrm];have zy:=fun L (h:SInv a.fin.length b.fin.length P Q L)=>h.len;refine Ql (Qb (sl':=[(2,.bool ei),(3,.vptr 0 0),(4,.vptr 1 0),(6,.nils),(7,.bool false),(8,.list (ls.map encSy)),(9,.sl 2 3 0 ([(([0],[0]),[])]:List SQ).length),(10,.i (0:Nat))]) ?_ (by simp));refine Qm (F:=fun(u:Nat×Nat×List SQ×List AObj)=>⟨[(2,.bool ei),(3,.vptr 0 0),(4,.vptr 1 0),(6,.nils),(7,.bool false),(8,.list (ls.map encSy)),(9,.sl u.2.1 3 0 u.2.2.1.length),(10,.i u.1)],u.2.2.2⟩)
  (fun u=>u.1≤u.2.2.1.length∧(SInv a.fin.length b.fin.length P Q u.2.2.1∧WL u.2.2.1)∧u.2.2.2[0]? =some (.vars (Qp a))∧u.2.2.2[1]? =some (.vars (Qp b))∧u.2.2.2[u.2.1]? =some (.arr 212 3 (u.2.2.1.map (Te a.fin.length b.fin.length)))∧Pq (Vq (wnE ei) a b) (Rz a b) (66050 - u.1) u.1 u.2.2.1=R) (fun u=>66050 - u.1) ?_ (0,2,[(([0],[0]),[])],_) ⟨by simp,⟨yd,WL.start⟩,rfl,rfl,rfl,hR⟩
 clear hR;rintro⟨n,l,L,H⟩ ⟨hn,⟨hP,zj⟩,h0,h1,hl,hB⟩ ih;simp only at hn hP zj h0 h1 hl hB ih ⊢;have yf:=zy L hP;repeat first|(refine r_ ?_;simp)|refine q_ ?_
 refine Qa rfl (fun y2=> ?_) (fun yg=> ?_)
 ·have z7:n<L.length:=by simpa using y2
  have hw:IntKind.i64.wrap ((n:Int)+1)=n+1:=wrap_i64 _ (by omega) (by omega);have zn:L[n]? =some L[n]:=zD z7;have yh:=zj n _ zn;have y3:=hP.mem _ (zG z7);obtain⟨y4,y5⟩:=hP.can _ (zG z7);have z8:(yI (Te a.fin.length b.fin.length) L)[n]? =some (Te a.fin.length b.fin.length L[n]):=by simp[z7]
  have za:∀hh,(yI (Te a.fin.length b.fin.length) L)[n]'hh=Te a.fin.length b.fin.length L[n]:=fun hh=>by simp
  generalize L[n]=e at *
  obtain⟨⟨s,t⟩,w⟩:=e;simp only[Te]at z8 za;simp only at y3 y4 y5 yh;rw[show 66050 - n=(66049 - n)+1 by omega,j0j zn]at hB;have yi:Vq (wnE ei) a b (s,t)=wnE ei (Th a s) (Th b t):=rfl;rw[yi]at hB;have cFa:=Xi a ha s y4;have cFb:=Xi b hb t y5;simp only[encA]at cFa cFb;generalize Th a s=fa at *;generalize Th b t=fb at *
  repeat first|(refine r_ ?_;simp[hl,z8,za,z7])|refine q_ ?_
  refine Eo fun Z hZ=> ?_;have z0:Z[0]? =some (.vars (Qp a)):=by rw[hZ];exact Qc h0 _
  have z1:Z[1]? =some (.vars (Qp b)):=by rw[hZ];exact Qc h1 _
  have zl:Z[l]? =some (.arr 212 3 (L.map (Te a.fin.length b.fin.length))):=by rw[hZ];exact Qc hl _
  have zx:Z[H.length]? =some (.vars [.list (O7 a.fin.length s),.list (O7 b.fin.length t),.list (w.map encSy)]):=by rw[hZ,zC (by simp)];simp
  clear hZ h0 h1 hl;generalize H.length=x at *;clear H;refine Qn tOk mixed [] (.val 0 (.val 1 (.val 2 (.val 4 (.val 5 (.val 6 (.one 3 (.one 7 (.val 8 (.val 9 (.done))))))))))) rfl (by kernel_rfl) ?_
  simp[z0,z1,zx];refine Qd rfl rfl (by simp) (cFb) rfl ?_;rintro _ rfl;simp[z0,z1,zx];refine Qd rfl rfl (by simp) (cFa) rfl ?_;rintro _ rfl;simp[z0,z1,zx];rw[f1p]at hB;refine Q1 (sl':=[(2,.bool ei),(3,.vptr 0 0),(4,.vptr 1 0),(6,.nils),(7,.bool false),(8,.list (ls.map encSy)),(9,.sl l 3 0 L.length),(10,.i n),(11,.vptr x 0),(12,.bool fb),(13,.bool fa)]) ?_ (by simp);repeat first|(refine r_ ?_;simp)|refine q_ ?_
  refine Qa rfl (fun hd=> ?_) (fun hd=> ?_)
  ·rw[if_pos hd]at hB;rw[←hB];repeat first|(refine r_ ?_;simp[zx])|refine q_ ?_
   rfl
  ·rw[if_neg (by rw[hd];simp)]at hB;repeat first|(refine r_ ?_;simp)|refine q_ ?_
   have ze:(Rz a b (s,t)).drop 0=Rz a b (s,t):=List.drop_zero;have zo:=yb (s,t);have zp:=fun k h=>yc (s,t) k h;refine Ql (Qb (sl':=[(2,.bool ei),(3,.vptr 0 0),(4,.vptr 1 0),(6,.nils),(7,.bool false),(8,.list (ls.map encSy)),(9,.sl l 3 0 L.length),(10,.i n),(11,.vptr x 0),(14,.i (0:Nat))]) ?_ (by simp));refine Qm (F:=fun(u:Nat×Nat×List SQ×List AObj)=>⟨[(2,.bool ei),(3,.vptr 0 0),(4,.vptr 1 0),(6,.nils),(7,.bool false),(8,.list (ls.map encSy)),(9,.sl u.2.1 3 0 u.2.2.1.length),(10,.i n),(11,.vptr x 0),(14,.i u.1)],u.2.2.2⟩)
    (fun u=>u.1≤ls.length∧n<u.2.2.1.length∧(SInv a.fin.length b.fin.length P Q u.2.2.1∧WL u.2.2.1)∧u.2.2.2[0]? =some (.vars (Qp a))∧u.2.2.2[1]? =some (.vars (Qp b))∧u.2.2.2[u.2.1]? =some (.arr 212 3 (u.2.2.1.map (Te a.fin.length b.fin.length)))∧u.2.2.2[x]? =some (.vars [.list (O7 a.fin.length s),.list (O7 b.fin.length t),.list (w.map encSy)])∧Pq (Vq (wnE ei) a b) (Rz a b) (66049 - n) (n+1) (W6 u.2.2.1 w ((Rz a b (s,t)).drop u.1))=R) (fun u=>ls.length - u.1) ?_ (0,l,L,Z) ⟨by simp,z7,⟨hP,zj⟩,z0,z1,zl,zx,by rw[ze];exact hB⟩
   clear z0 z1 zl zx hB hP zj z7 zn z8 za yf y2 hd cFa cFb ze;clear hn;rintro⟨k,l2,L2,G⟩ ⟨hk,y6,⟨zd,zb⟩,g0,g1,gl,gx,hB⟩ ih2;simp only at hk y6 zd zb g0 g1 gl gx hB ih2 ⊢;have yj:=zy L2 zd;repeat first|(refine r_ ?_;simp)|refine q_ ?_
   refine Qa rfl (fun zq=> ?_) (fun zr=> ?_)
   ·have z6:k<ls.length:=by simpa using zq
    have y7:IntKind.i64.wrap ((k:Int)+1)=k+1:=wrap_i64 _ (by omega) (by omega);rw[zp k z6,Bo,v1u]at hB;have yk:=zm _ (zG z6);have zc:=zk.step (s,t) y3 _ yk;have z8:(yI encSy ls)[k]? =some (encSy ls[k]):=by simp[z6]
    have za:∀hh,(yI encSy ls)[k]'hh=encSy ls[k]:=fun hh=>by simp
    generalize ls[k]=y at *;simp only at hB
    have hst:Je a b (s,t) y=(Qu a s y,Qu b t y):=rfl;rw[hst]at zc;have zf:=q0d a s y;have zg:=q0d b t y;have cN1:=w0f a ha s y;have cN2:=w0f b hb t y;simp only[encSy,encA]at z8 za cN1 cN2;generalize Qu a s y=s2 at *;generalize Qu b t y=t2 at *
    repeat first|(refine r_ ?_;simp)|refine q_ ?_
    refine Qn tOk mixed [] (.val 0 (.val 1 (.val 2 (.val 3 (.val 4 (.val 5 (.val 6 (.val 8 (.val 9 (.val 10 (.val 11 (.val 12 (.val 13 (.val 14 (.one 7 (.one 15 (.val 16 (.val 17 (.done))))))))))))))))))) rfl (by kernel_rfl) ?_;simp[g0,g1,gx,z6,z8,za];refine Qd rfl rfl (by simp) (cN1) rfl ?_;rintro _ rfl;simp[g0,g1,gx,z6,z8,za];refine Qd rfl rfl (by simp) (cN2) rfl ?_;rintro _ rfl;simp[g0,g1,gx,z6,z8,za];have zh:(yI (Te a.fin.length b.fin.length) L2).length=L2.length:=by simp
    have zt:List.take L2.length (yI (Te a.fin.length b.fin.length) L2)=yI (Te a.fin.length b.fin.length) L2:=zI (by simp);repeat first|(refine r_ ?_;simp)|refine q_ ?_
    have ym:=y8.2;have yn:=y9.2;refine R0 rfl rfl (by first|(simp[gl,zt,zh];done)|(simp[gl,zt,zh];rfl)) (z13 a.fin.length b.fin.length (by omega) (by omega) L2 zd.can (by omega) s2 t2 zf zg) rfl ?_;rintro _ rfl;refine⟨by first|simp|rfl|trivial,?_⟩;simp[gl,zt,zh];by_cases hky:(s2,t2)∈L2.map (·.1)
    ·rw[if_pos hky]at hB;rw[decide_eq_true hky];refine Qq rfl ?_;repeat first|(refine r_ ?_;simp[y7])|refine q_ ?_
     refine Qb (sl':=[(2,.bool ei),(3,.vptr 0 0),(4,.vptr 1 0),(6,.nils),(7,.bool false),(8,.list (ls.map encSy)),(9,.sl l2 3 0 L2.length),(10,.i n),(11,.vptr x 0),(14,.i (k+1:Nat))]) ?_ (by simp);exact ih2 (k+1,l2,L2,G) ⟨by omega,y6,⟨zd,zb⟩,g0,g1,gl,gx,hB⟩ (by omega)
    ·rw[if_neg hky]at hB;rw[decide_eq_false hky];have yo:=zd.add (w:=w++[y]) zc ⟨zf,zg⟩ hky;have zu:=zb.add (t:=(s2,t2)) (w:=w++[y]) (by simp;omega);refine Qq rfl ?_;repeat first|(refine r_ ?_;simp[gx])|refine q_ ?_
     refine Qf tOk rfl rfl T26 rfl T52 rfl (by decide) (by decide) rfl rfl rfl ?_;simp;refine⟨⟨fun v hv=> ?_,by simp;omega⟩,?_⟩
     ·obtain⟨c',_,rfl⟩:=zM.1 hv;exact⟨rfl,rfl⟩
     repeat first|(refine r_ ?_;simp[z8,za,z6])|refine q_ ?_
     refine Qf tOk rfl rfl T26 rfl T52 rfl (by decide) (by decide) rfl rfl rfl ?_;simp;refine⟨by simp[Ws]<;>omega,?_⟩;refine Y7 fun Z hZ=> ?_;have zz:Z.length=G.length+4:=by rw[hZ];simp
     have z0:Z[0]? =some (.vars (Qp a)):=by rw[hZ];exact Qc g0 _
     have z1:Z[1]? =some (.vars (Qp b)):=by rw[hZ];exact Qc g1 _
     have zl:Z[l2]? =some (.arr 212 3 (L2.map (Te a.fin.length b.fin.length))):=by rw[hZ];exact Qc gl _
     have zx:Z[x]? =some (.vars [.list (O7 a.fin.length s),.list (O7 b.fin.length t),.list (w.map encSy)]):=by rw[hZ];exact Qc gx _
     have zw:Z[G.length+2]? =some (.arr 52 2 (w.map encSy++[.agg [.i y.ty,.i y.num]])):=by rw[hZ,zC (by omega)];simp
     have zv:Z[G.length+3]? =some (.va 212 3 [.agg [.list (O7 a.fin.length s2),.list (O7 b.fin.length t2),.sl (G.length+2) 2 0 (w.length+1)]]):=by rw[hZ,zC (by omega)];simp
     have yz:=Qi gl;have x0:=Qi gx;have g1t:=Qi g1;clear hZ g0 g1 gl gx;generalize G.length=m at *;clear G;refine P5 (m+2) zw (m+3) zv (by omega) rfl ?_
     simp[AObj.fz,AV.fz];rw[zI (by simp)];refine N1 (m+3) (e:=212) (c:=3) (xs:=[Te a.fin.length b.fin.length ((s2,t2),w++[y])]) (by rw[zH (by simp;omega)];simp[Te]) (by simp[AV.cells,AV.pure,Te]) ?_;refine Y7 fun Y hY=> ?_;have yy:Y.length=m+4:=by rw[hY];simp[zz]
     have y0:Y[0]? =some (.vars (Qp a)):=by rw[hY,zB (by omega),zB (by omega),zB (by omega)];exact z0
     have y1:Y[1]? =some (.vars (Qp b)):=by rw[hY,zB (by omega),zB (by omega),zB (by omega)];exact z1
     have yl:Y[l2]? =some (.arr 212 3 (L2.map (Te a.fin.length b.fin.length))):=by rw[hY,zB (by omega),zB (by omega),zB (by omega)];exact zl
     have yx:Y[x]? =some (.vars [.list (O7 a.fin.length s),.list (O7 b.fin.length t),.list (w.map encSy)]):=by rw[hY,zB (by omega),zB (by omega),zB (by omega)];exact zx
     have yv:Y[m+3]? =some (.arr 212 3 [Te a.fin.length b.fin.length ((s2,t2),w++[y])]):=by rw[hY,zH (by simp;omega)]
     have x1:l2≠m+3:=by omega
     have yp:l2≠0:=fun e=>by rw[e,y0]at yl;simp at yl
     have yq:l2≠1:=fun e=>by rw[e,y1]at yl;simp at yl
     have yr:l2≠x:=fun e=>by rw[e,yx]at yl;simp at yl
     clear hY z0 z1 zl zx zw zv zz;clear Z;generalize m+3=v at *;refine Qf tOk rfl rfl y2s rfl y2y rfl (by decide) (by decide) rfl rfl rfl ?_
     simp[Qc yl,Qj yl,yl,yv,zh,Te];refine⟨by simp[Ws,Qc yl,Qj yl,yl,yv,zh,Te]<;>omega,?_⟩;repeat first|(refine r_ ?_;simp[y7])|refine q_ ?_
     refine Qb (sl':=[(2,.bool ei),(3,.vptr 0 0),(4,.vptr 1 0),(6,.nils),(7,.bool false),(8,.list (ls.map encSy)),(9,.sl Y.length 3 0 (L2.length+1)),(10,.i n),(11,.vptr x 0),(14,.i (k+1:Nat))]) ?_ (by simp);have:=ih2 (k+1,Y.length,L2++[((s2,t2),w++[y])],(Y.set l2 .dead)++[.arr 212 3 ((L2++[((s2,t2),w++[y])]).map (Te a.fin.length b.fin.length))]) ⟨by omega,by simp;omega,⟨yo,zu⟩,Qc (Qg yp y0 _) _,Qc (Qg yq y1 _) _,by rw[zC (by simp)];simp,Qc (Qg yr yx _) _,hB⟩ (by simp only;omega);simpa[Te]using this
   ·have zi:k=ls.length:=by simp at zr;omega
    subst zi;rw[List.drop_eq_nil_of_le (Nat.le_of_eq zo),y03]at hB;repeat first|(refine r_ ?_;simp[hw])|refine q_ ?_
    refine Qb (sl':=[(2,.bool ei),(3,.vptr 0 0),(4,.vptr 1 0),(6,.nils),(7,.bool false),(8,.list (ls.map encSy)),(9,.sl l2 3 0 L2.length),(10,.i (n+1:Nat))]) ?_ (by simp);exact ih (n+1,l2,L2,G) ⟨by simp only;omega,⟨zd,zb⟩,g0,g1,gl,by rw[show 66050 - (n+1)=66049 - n by omega];exact hB⟩ (by simp only;omega)
 ·have yt:n=L.length:=by simp at yg;omega
  rw[k09 (by rw[List.getElem?_eq_none_iff];omega)]at hB;rw[←hB];repeat first|(refine r_ ?_;simp)|refine q_ ?_
  rfl
end Go.Abs
namespace Go.Abs
open Go Go.Proofs Go.Maps Go.RowKit
def u1c(lo hi:Int):Prd:=[[⟨lo,hi⟩]]
def exA:Aut:=⟨1,[false,false,true],[⟨0,0,u1c (-1099511627776) 1099511627776⟩,⟨0,1,u1c 5 1099511627776⟩,⟨1,2,u1c (-1099511627776) 7⟩]⟩
def x2g(l:List Int):List Sy:=l.map fun n=>⟨0,n⟩
def y21(a:Aut)(w:List Sy):Bool:=x1e a && decide (w.length≤12) && (d01 a w).2==0
end Go.Abs
namespace Go.Abs
open Go Go.Proofs Go.Maps Go.RowKit
end Go.Abs
namespace Go.Abs
open Go Go.Proofs Go.Maps Go.RowKit
def v2a(a b:Aut):EqC×Int:=if Tp a b≠0 then(j1w,Tp a b)else match (D3 a b 0 0).1 with
 |some w=>(⟨2,[],w⟩,0)
 |none=>(⟨1,Tw (Xp a b),[]⟩,0)
def j19(a b:Aut):(List Sy×Bool)×Int:=if Rm a b≠0 then(([],false),Rm a b)else match (k0j a b d0y).1 with
 |some w=>((w,false),0)
 |none=>(([],true),0)
def x24(a b:Aut):(List Sy×Bool)×Int:=if Rm a b≠0 then(([],false),Rm a b)else match (k0j a b neB).1 with
 |some w=>((w,true),0)
 |none=>(([],false),0)
def y2n(r:EqC×Int):AV:= .tup [My r.1,.i r.2]
def x1z(r:(List Sy×Bool)×Int):AV:= .tup [LSy r.1.1,.bool r.1.2,.i r.2]
attribute [local irreducible] Tp D3 Tw Xp Ev Rm k0j Rl
theorem w0v{a b:Aut}(h:Rm a b=0):OkA a∧OkA b∧b.types=a.types∧∃P Q,SPQ a b P Q:=by
 have hb:Ev a b=0:=by
  by_cases k:Ev a b=0
  ·exact k
  ·unfold Rm at h;rw[if_pos k]at h;exact absurd h k
 obtain⟨h1,h2,h3⟩:=Ty.1 hb;obtain⟨d1,d2⟩:=(Px hb).1 h;exact⟨h1,h2,h3,spq h1 h2 h3 (I8 d1) (I8 d2)⟩
theorem Vs(a b:Aut):PC Tryz.prog 33 [encA a,encA b] (fun r=>r=x1z (j19 a b)):=by
 refine Qh tOk Tryz.func33 rfl Tryz.results33 rfl (by simp[Tryz.ntmps33]) ?_;rw[Tryz.ntmps33];simp only[Qe];obtain⟨R,hR⟩:∃R,j19 a b=R:=⟨_,rfl⟩
 rw[hR];unfold j19 at hR;have cO:=c0w a b;have z1:Rm a b=0→_:=fun h=>w0v h;simp only[encA]at cO ⊢;repeat first|(refine r_ ?_;simp)|refine q_ ?_
 refine Qd rfl rfl (by simp) (cO) rfl ?_;rintro _ rfl;simp;repeat first|(refine r_ ?_;simp)|refine q_ ?_
 refine Qa rfl (fun h=> ?_) (fun h=> ?_)
 ·have h':Rm a b≠0:=by simpa using h
  rw[if_pos h']at hR;subst hR;repeat first|(refine r_ ?_;simp)|refine q_ ?_
  rfl
 have h':Rm a b=0:=by simpa using h
 rw[if_neg (fun k=>k h')]at hR;obtain⟨ha,hb,ht,P,Q,z6⟩:=z1 h';have cF:=v0o a b ha hb ht P Q z6 false;rw[show wnE false=d0y from rfl]at cF;simp only[encA]at cF;repeat first|(refine r_ ?_;simp)|refine q_ ?_
 cases hp:(k0j a b d0y).1 with
 |some w=>
  rw[hp]at hR cF;simp only at hR;subst hR;refine Qd rfl rfl (by simp) (cF) rfl ?_;rintro _ rfl;simp[u1i];repeat first|(refine r_ ?_;simp)|refine q_ ?_
  rfl
 |none=>
  rw[hp]at hR cF;simp only at hR;subst hR;refine Qd rfl rfl (by simp) (cF) rfl ?_;rintro _ rfl;simp[u1i];repeat first|(refine r_ ?_;simp)|refine q_ ?_
  rfl
end Go.Abs
namespace Go.Abs
open Go Go.Proofs Go.Maps Go.RowKit
theorem g1i(a b a' b':Int):eqA T 9 52 (.agg [.int .i64 a,.int .i64 b]) (.agg [.int .i64 a',.int .i64 b'])=some (a==a' && b==b'):=by simp[eqA,Ua,Sf,TI.agg]
theorem j1d{a b:List Sy}{j:Nat}(h1:j<a.length)(h2:j<b.length)(h:a.take j=b.take j)(e:a[j]=b[j]):a.take (j+1)=b.take (j+1):=by rw[zL h1,zL h2,h,e]
theorem S3(a b:List Sy):PC Tryz.prog 26 [LSy a,LSy b] (fun r=>r= .bool (decide (a=b))):=by
 refine Qh tOk Tryz.func26 rfl Tryz.results26 rfl (by simp[Tryz.ntmps26]) ?_;rw[Tryz.ntmps26];simp only[Qe];refine R9 0 rfl (fun hlen=> ?_);rw[zV]at hlen;repeat first|(refine r_ ?_;simp)|refine q_ ?_
 refine Qa rfl (fun h=> ?_) (fun h1=> ?_)
 ·repeat first|(refine r_ ?_;simp)|refine q_ ?_
  rintro rfl;simp at h
 have hl:a.length=b.length:=by simp at h1;omega
 repeat first|(refine r_ ?_;simp)|refine q_ ?_
 refine Qs a.length (fun j=>a.take j=b.take j) (fun j=>[(0,LSy a),(1,LSy b),(12,.i a.length),(13,.i j)]) (fun _=>[]) rfl (by simp) (by simp) (by simp) (by simp) (by simp) ?_;intro j hj hI ih;repeat first|(refine r_ ?_;simp)|refine q_ ?_
 refine Qa rfl (fun z8=> ?_) (fun za=> ?_)
 ·have z1:j<a.length:=by simpa using z8
  have z6:j<b.length:=by omega
  repeat first|(refine r_ ?_;simp)|refine q_ ?_
  refine Qn tOk mixed [] (.val 0 (.val 1 (.val 2 (.val 3 (.val 4 (.val 5 (.val 6 (.val 7 (.val 8 (.done)))))))))) rfl (by kernel_rfl) ?_;simp[z1,z6,g1i];refine Qa rfl (fun h=> ?_) (fun h=> ?_)
  ·repeat first|(refine r_ ?_;simp)|refine q_ ?_
   rintro rfl;simp at h
  ·repeat first|(refine r_ ?_;simp)|refine q_ ?_
   have he:a[j]=b[j]:=by
    have h2:a[j].ty=b[j].ty∧a[j].num=b[j].num:=by simpa using h
    cases ha:a[j];cases hb:b[j];rw[ha,hb]at h2;simp only at h2;rw[h2.1,h2.2]
   refine Qr _ (ih z1 (j1d z1 z6 hI he)) rfl (by simp) ?_ (by simp) (by simp);simp;exact wrap_i64 _ (by omega) (by omega)
 ·have z7:j=a.length:=by simp at za;omega
  subst z7;repeat first|(refine r_ ?_;simp)|refine q_ ?_
  rw[zI (zK _),zI (by omega)]at hI;exact hI
end Go.Abs
namespace Go.Abs
open Go Go.Proofs Go.Maps Go.RowKit
theorem Zl(lo hi:Int):PC Tryz.prog 145 [.i lo,.i hi] (fun r=>r=encP [[⟨lo,hi⟩]]):=by refine Qh tOk Tryz.func145 rfl Tryz.results145 rfl (by simp[Tryz.ntmps145]) ?_;rw[Tryz.ntmps145];simp only[Qe];refine Ey (Rt tOk rfl ?_);simp;refine Ey (Rt tOk rfl ?_);simp;refine Pa 1 (e:=144) (c:=2) (xs:=[encIv ⟨lo,hi⟩]) rfl 2 (o0:= .va 145 1 [.sl 1 2 0 1]) rfl (by decide) rfl ?_;simp[AObj.fz,AV.fz];refine U8 2 rfl (by simp[AV.cells,AV.pure]) ?_;simp;refine Wi 2 (e:=145) (c:=1) (xs:=[encL [⟨lo,hi⟩]]) rfl 0 rfl ?_;simp;repeat first|(refine r_ ?_;simp)|refine q_ ?_
theorem N8:PC Tryz.prog 79 [] (fun r=>r= .tup [encA exQ,encA exR]):=by
 refine Qh tOk Tryz.func79 rfl Tryz.results79 rfl (by simp[Tryz.ntmps79]) ?_;rw[Tryz.ntmps79];simp only[Qe];have z1:yA 2=[0,1]:=rfl;have z6:yA 4=[0,1,2,3]:=rfl;repeat first|(refine r_ ?_;simp[z1,z6])|refine q_ ?_
 refine Qd rfl rfl (by simp) (Zl (-1099511627776) 1099511627776) rfl ?_;rintro _ rfl;simp[z1,z6];refine Qd rfl rfl (by simp) (Zl (-1099511627776) 4) rfl ?_;rintro _ rfl;simp[z1,z6];refine Qd rfl rfl (by simp) (Zl 5 1099511627776) rfl ?_;rintro _ rfl;simp[z1,z6];repeat first|(refine r_ ?_;simp[z1,z6])|refine q_ ?_
 refine Q1 (sl':=[(0,.vptr 0 0),(1,.vptr 1 0),(5,.vptr 7 0),(6,.vptr 10 0)]) ?_ (by simp);refine Wi 5 (e:=4) (c:=1) (xs:=[.bool false,.bool true]) rfl 7 rfl ?_;simp;refine Wi 8 (e:=4) (c:=1) (xs:=[.bool false,.bool true]) rfl 10 rfl ?_;simp;refine Wi 6 (e:=73) (c:=3) (xs:=exQ.mv.map encMv) rfl 7 rfl ?_;have z7:exQ.mv.length=2:=rfl;have z8:exR.mv.length=4:=rfl;simp[z7];refine Wi 9 (e:=73) (c:=3) (xs:=exR.mv.map encMv) rfl 10 rfl ?_;simp[z8];rw[zI (by simp[z7]),zI (by simp[z8])];refine Hv tOk mixed [2,3] (.val 0 (.two 1 (.one 2 (.one 3 (.done))) 2 (.val 1 (.one 3 (.done))))) rfl (by kernel_rfl) ?_;simp;repeat first|(refine r_ ?_;simp)|refine q_ ?_
 exact⟨⟨rfl,rfl⟩,rfl,rfl⟩
end Go.Abs
namespace Go.Abs
open Go Go.Proofs Go.Maps Go.RowKit
attribute [simp] v16 y27 y2z
theorem Mt:(Tryz.prog).underlying 66=some (.array 2 3):=by kernel_rfl
theorem u1a:(Tryz.prog).underlying 3=some (.int .i64):=by kernel_rfl
theorem w0g:(Tryz.prog).cellsOf 66=2:=by kernel_rfl
theorem f07:(Tryz.prog).cellsOf 3=1:=by kernel_rfl
theorem v1z:(Tryz.prog).keyType 66=true:=by kernel_rfl
theorem u15:laidOutB Tryz.prog=true:=by kernel_rfl
theorem k1s:(Tryz.prog).keyTypeAt 3 66=true:=by kernel_rfl
theorem x1n:66<(Tryz.prog).types.size:=of_decide_eq_true (by kernel_rfl)
theorem G9:Keyed Tryz.prog 66:=Keyed.of_law (deep_law_laid u15 (m:=3) (by decide) x1n k1s (by rw[Mt]))
def okQ(s:Int×Int):Prop:=(-1≤s.1∧s.1≤1000000)∧(-1≤s.2∧s.2≤1000000)
theorem j1k{s t:Int×Int}(h:pqr s=pqr t):s=t:=by unfold pqr at h;simp at h;exact tI h.1 h.2
theorem u1e{z:Int}(h: -1≤z∧z≤1000000):(Lit.int .i64 z).wf=true:=by
 have h1:IntKind.i64.min= -9223372036854775808:=by decide
 have h2:IntKind.i64.max=9223372036854775807:=by decide
 simp only[Lit.wf,h1,h2,zR,decide_eq_true_eq];omega
theorem k0y(d:Nat){z:Int}(h: -1≤z∧z≤1000000):(Tryz.prog).keyLits (d+1) 3 [.int .i64 z]=some [.int .i64 z]:=by unfold Program.keyLits;rw[u1a];simp[u1e h]
theorem c18(d:Nat){s:Int×Int}(h:okQ s):(Tryz.prog).keyLits (d+2) 66 [.int .i64 s.1,.int .i64 s.2]=some [.int .i64 s.1,.int .i64 s.2]:=by unfold Program.keyLits;rw[Mt];simp only[w0g,f07,List.length_cons,List.length_nil,if_true];have h1:=k0y d h.1;have h2:=k0y d h.2;simp[wT,h1,h2]
theorem Oc{s:Int×Int}(h:okQ s):isKey Tryz.prog 66 (pqr s):=by
 refine⟨.agg #[.int .i64 s.1,.int .i64 s.2],.string (keyBytes [.int .i64 s.1,.int .i64 s.2]),rfl,?_⟩;obtain⟨d,hd⟩:∃d,(Tryz.prog).types.size+1=d+2:=⟨(Tryz.prog).types.size - 1,by have:=x1n;omega⟩
 unfold keyOf;rw[Mt];simp only;have hf:Value.formed Tryz.prog 66 (.agg #[.int .i64 s.1,.int .i64 s.2])=true:=by unfold Value.formed;rw[Mt,w0g];rfl
 rw[v1z,hf,hd];have:(Value.agg #[.int .i64 s.1,.int .i64 s.2]).cells.toList=[.int .i64 s.1,.int .i64 s.2]:=rfl;rw[this,c18 d h];rfl
def kvQ(l:List (Int×Int)):List (AV×AV):=l.map fun s=>(pqr s,.bool true)
def stQ(l:List (Int×Int)):AObj:= .mp (kvQ l)
theorem Lh{l:List (Int×Int)}(h:∀s∈l,okQ s):∀p∈kvQ l,isKey Tryz.prog 66 p.1:=fun p hp=>by obtain⟨e,he,rfl⟩:=zM.1 hp;exact Oc (h e he)
theorem Zf{l:List (Int×Int)}{j:Nat}{p:AV×AV}{s:Int×Int}(hp:(kvQ l)[j]? =some p)(he:p.1=pqr s):s∈l∧p.2= .bool true:=by unfold kvQ at hp;rw[zQ]at hp;obtain⟨m,hm,rfl⟩:=zN.1 hp;have z1:m=s:=j1k he;exact⟨by rw[←z1];exact zF hm,rfl⟩
section
variable {nt k:Nat} {S:AS} {ops:Array Oper} {o:Oper} {R:AS→Prop}
theorem N0 {wr:Bool} (hw:Q4 ops S o=some true) (hd:W4 nt o=true) {x ix:Operand} (ho:o.op= .lookup 174 x ix false) {id:Nat} (hx:rho S.sl x=some (.mref id)) {s:Int×Int} (z1:rho S.sl ix=some (.agg [.i s.1,.i s.2]))
  {l:List (Int×Int)} (z6:S.hp[id]? =some (stQ l)) (hl:∀m∈l,okQ m) (hn:okQ s) (hR:R (S.putD o.dst (.bool (decide (s∈l))))):Wm Tryz.prog nt k wr ops o S R:=by
 refine Dc tOk hw hd ho v16 rfl T4 G9 hx z1 z6 (Oc hn) (Lh hl) (z:= .bool false) rfl (fun j p hp he=> ?_) (fun z7=> ?_)
 ·obtain⟨h1,h2⟩:=Zf hp he;rw[decide_eq_true h1]at hR;rw[h2];exact hR
 ·rw[decide_eq_false (fun h=>z7 (pqr s,.bool true) (zM.2 ⟨s,h,rfl⟩) rfl)]at hR;exact hR
theorem Dq {wr:Bool} (hw:Q4 ops S o=some true) (hd:W4 nt o=true) {x ix:Operand} (ho:o.op= .lookup 174 x ix false) {id:Nat} (hx:rho S.sl x=some (.mref id)) {s:Int×Int} (z1:rho S.sl ix=some (.agg [.i s.1,.i s.2]))
  {l:List (Int×Int)} (z6:S.hp[id]? =some (.fm (kvQ l))) (hl:∀m∈l,okQ m) (hn:okQ s) (hR:R (S.putD o.dst (.bool (decide (s∈l))))):Wm Tryz.prog nt k wr ops o S R:=by
 refine Lc tOk hw hd ho v16 rfl T4 G9 hx z1 z6 (Oc hn) (Lh hl) (z:= .bool false) rfl (fun j p hp he=> ?_) (fun z7=> ?_)
 ·obtain⟨h1,h2⟩:=Zf hp he;rw[decide_eq_true h1]at hR;rw[h2];exact hR
 ·rw[decide_eq_false (fun h=>z7 (pqr s,.bool true) (zM.2 ⟨s,h,rfl⟩) rfl)]at hR;exact hR
theorem Ko (hw:Q4 ops S o=some true) (hd:W4 nt o=true) {x ix y:Operand} (ho:o.op= .mapUpdate 174 x ix y) {id:Nat} (hx:rho S.sl x=some (.mref id)) {s:Int×Int} (z1:rho S.sl ix=some (.agg [.i s.1,.i s.2])) (hy:rho S.sl y=some (.bool true))
  {l:List (Int×Int)} (z6:S.hp[id]? =some (stQ l)) (hl:∀m∈l,okQ m) (hn:okQ s) (z7:s∉l) (hR:R (({ S with hp:=S.hp.set id (stQ (l++[s])) }:AS).putD o.dst (.tup []))):Wm Tryz.prog nt k true ops o S R:=by
 refine R4 tOk hw hd ho v16 rfl G9 hx z1 hy (by simp[AV.pure]) z6 (Oc hn) (Lh hl) (fun j p hp he=> ?_) (fun z8=> ?_)
 ·exact absurd (Zf hp he).1 z7
 ·have:kvQ l++[(pqr s,.bool true)]=kvQ (l++[s]):=by simp[kvQ]
  unfold stQ at hR;rw[←this]at hR;exact hR
theorem Md (hw:Q4 ops S o=some true) (hd:W4 nt o=true) {x ix y:Operand} (ho:o.op= .mapUpdate 174 x ix y) {id:Nat} (hx:rho S.sl x=some (.mref id)) {s:Int×Int} (z1:rho S.sl ix=some (.agg [.i s.1,.i s.2])) (hy:rho S.sl y=some (.bool true))
  {l:List (Int×Int)} (z6:S.hp[id]? =some (stQ l)) (hl:∀m∈l,okQ m) (hn:okQ s) (hR:R (({ S with hp:=S.hp.set id (stQ (adQ l s)) }:AS).putD o.dst (.tup []))):Wm Tryz.prog nt k true ops o S R:=by
 by_cases hm:s∈l
 ·rw[c16 hm]at hR;refine R4 tOk hw hd ho v16 rfl G9 hx z1 hy (by simp[AV.pure]) z6 (Oc hn) (Lh hl) (fun j p hp he=> ?_) (fun z7=> ?_)
  ·obtain⟨h1,h2⟩:=Zf hp he;have:(kvQ l).set j (pqr s,.bool true)=kvQ l:=by
    refine xD fun i=> ?_;by_cases hi:i=j
    ·subst hi;rw[zH (zA.1 hp).1,hp]
     congr 1
     exact tI he.symm h2.symm
    ·rw[zB (Ne.symm hi)]
   unfold stQ at hR;rw[←this]at hR;exact hR
  ·exact absurd rfl (z7 (pqr s,.bool true) (zM.2 ⟨s,hm,rfl⟩))
 ·rw[j1y hm]at hR;exact Ko hw hd ho hx z1 hy z6 hl hn hm hR
theorem y0k (hw:Q4 ops S o=some true) (hd:W4 nt o=true) {x ix y:Operand} (ho:o.op= .insert 174 x ix y) {id:Nat} (hx:rho S.sl x=some (.mref id)) {s:Int×Int} (z1:rho S.sl ix=some (.agg [.i s.1,.i s.2])) (hy:rho S.sl y=some (.bool true))
  (z6:S.hp[id]? =some (.mp [])) (hn:okQ s) (hR:R (({ S with hp:=S.hp.set id (stQ [s]) }:AS).putD o.dst (.tup []))):Wm Tryz.prog nt k true ops o S R:=by
 refine Dd tOk hw hd ho v16 rfl G9 hx z1 hy (by simp[AV.pure]) z6 (Oc hn) (fun p hp=>by cases hp) (fun j p hp he=>by cases hp) (fun z7=> ?_);exact hR
end
def c0v(xs ys:List Sy)(i:Nat):Prop:=ys.length=xs.length∧∀p,p<xs.length→ys[p]? =if p<i∨xs.length - i≤p then xs[xs.length - 1 - p]? else xs[p]?
theorem c0v.done{xs ys:List Sy}{i:Nat}(h:c0v xs ys i)(hi:xs.length≤2 * i+1):ys=xs.reverse:=by
 refine xD fun p=> ?_;by_cases hp:p<xs.length
 ·rw[h.2 p hp,List.getElem?_reverse hp];split
  ·rfl
  ·rename_i hn
   congr 1;omega
 ·rw[xE (by rw[h.1];omega),xE (by simp;omega)]
theorem c0v.start(xs:List Sy):c0v xs xs 0:=⟨rfl,fun p hp=>by rw[if_neg (by omega)]⟩
theorem c0v.step{xs ys:List Sy}{i:Nat}(h:c0v xs ys i)(hi:2 * i+1<xs.length){x y:Sy}(hx:ys[i]? =some x)(hy:ys[xs.length - 1 - i]? =some y):c0v xs ((ys.set i y).set (xs.length - 1 - i) x) (i+1):=by
 refine⟨by simp[h.1],fun p hp=> ?_⟩;have h1:=h.2 i (by omega);rw[if_neg (by omega),hx]at h1;have h2:=h.2 (xs.length - 1 - i) (by omega);rw[if_neg (by omega),hy]at h2;by_cases e1:p=xs.length - 1 - i
 ·subst e1;rw[zH (by simp[h.1];omega),if_pos (by omega),show xs.length - 1 - (xs.length - 1 - i)=i by omega];exact h1
 ·rw[zB (Ne.symm e1)];by_cases e2:p=i
  ·subst e2;rw[zH (by rw[h.1];omega),if_pos (by omega)];exact h2
  ·rw[zB (Ne.symm e2),h.2 p hp];by_cases e3:p<i∨xs.length - i≤p
   ·rw[if_pos e3,if_pos (by omega)]
   ·rw[if_neg e3,if_neg (by omega)]
theorem Cd(H:List AObj)(p:Nat)(xs:List Sy)(hp:H[p]? =some (.arr 52 2 (xs.map encSy)))(hl:xs.length≤1000000):FC Tryz.prog 189 [.sl p 2 0 xs.length] H (fun r H'=>r= .tup []∧H'=H.set p (.arr 52 2 (xs.reverse.map encSy))):=by
 refine El tOk Tryz.func189 rfl Tryz.results189 rfl (by simp[Tryz.ntmps189]) ?_;rw[Tryz.ntmps189];simp only[Qe];have zc:=Qi hp;have ze:IntKind.i64.wrap ((xs.length:Int) - 1)=(xs.length:Int) - 1:=wrap_i64 _ (by omega) (by omega);have z6:H.set p (.arr 52 2 (xs.map encSy))=H:=by
  refine xD fun i=> ?_;by_cases e:i=p
  ·subst e;rw[zH zc,hp]
  ·rw[zB (Ne.symm e)]
 repeat first|(refine r_ ?_;simp[ze])|refine q_ ?_
 refine Ql (Qb (sl':=[(0,.sl p 2 0 xs.length),(2,.i (0:Nat)),(3,.i ((xs.length:Int) - 1))]) ?_ (by simp));refine Qm (P:=Tryz.prog) (F:=fun(u:Nat×Int×List Sy×List AObj)=>⟨[(0,.sl p 2 0 xs.length),(2,.i u.1),(3,.i u.2.1)],u.2.2.2⟩)
  (fun u=>u.1≤xs.length∧u.2.1=(xs.length:Int) - 1 - u.1∧c0v xs u.2.2.1 u.1∧u.2.2.2=H.set p (.arr 52 2 (u.2.2.1.map encSy))) (fun u=>xs.length - u.1) ?_ (0,(xs.length:Int) - 1,xs,H) ⟨xA _,by simp,c0v.start xs,z6.symm⟩
 rintro⟨i,m,ys,G⟩ ⟨hi,hm,hr,hG⟩ ih;simp only at hi hm hr hG ih ⊢;repeat first|(refine r_ ?_;simp)|refine q_ ?_
 refine Qa rfl (fun zf=> ?_) (fun zg=> ?_)
 ·have zh:(i:Int)<m:=by simpa using zf
  obtain⟨k,rfl⟩:∃k:Nat,m=k:=⟨m.toNat,by omega⟩
  have hk:k=xs.length - 1 - i:=by omega
  have zi:i<k:=by omega
  have zj:k<xs.length:=by omega
  have z7:i<xs.length:=by omega
  have zk:IntKind.i64.wrap ((i:Int)+1)=i+1:=wrap_i64 _ (by omega) (by omega);have zl:IntKind.i64.wrap ((k:Int) - 1)=(k:Int) - 1:=wrap_i64 _ (by omega) (by omega);have zr:=hr.1;obtain⟨x,hx⟩:∃x,ys[i]? =some x:=⟨_,zD (by omega)⟩
  obtain⟨y,hy⟩:∃y,ys[k]? =some y:=⟨_,zD (by omega)⟩
  have hst:=hr.step (by omega) hx (by rw[←hk];exact hy);rw[←hk]at hst;have hg:G[p]? =some (.arr 52 2 (ys.map encSy)):=by rw[hG,zH zc]
  have zd:(ys.map encSy)[i]? =some (.agg [.i x.ty,.i x.num]):=by rw[zQ,hx];rfl
  have z8:(ys.map encSy)[k]? =some (.agg [.i y.ty,.i y.num]):=by rw[zQ,hy];rfl
  have zm:∀hh,(ys.map encSy)[i]'hh= .agg [.i x.ty,.i x.num]:=fun hh=>(yT hh).2 zd;have zn:∀hh,(ys.map encSy)[k]'hh= .agg [.i y.ty,.i y.num]:=fun hh=>(yT hh).2 z8;have zo:i<ys.length:=by omega
  have za:k<ys.length:=by omega
  have zp:∀z,(G.set p z)[p]? =some z:=fun z=>Qo hg z;have z1:∀z,((ys.map encSy).set i z)[k]? =some (.agg [.i y.ty,.i y.num]):=fun z=>by rw[zB (by omega)];exact z8
  have zb:∀z hh,((ys.map encSy).set i z)[k]'hh= .agg [.i y.ty,.i y.num]:=fun z hh=>(yT hh).2 (z1 z);repeat first|(refine r_ ?_;simp)|refine q_ ?_
  refine Qn tOk mixed [13,15] (.val 0 (.val 1 (.val 2 (.val 3 (.val 4 (.val 5 (.val 6 (.val 7 (.val 8 (.val 9 (.val 10 (.val 11 (.val 12 (.one 13 (.val 14 (.one 15 (.done))))))))))))))))) rfl (by kernel_rfl) ?_;simp[hg,zd,z8,zm,zn,zo,za,zp,z1,zi,zj,z7,zb];repeat first|(refine r_ ?_;simp[zk,zl])|refine q_ ?_
  refine Qb (sl':=[(0,.sl p 2 0 xs.length),(2,.i (i+1:Nat)),(3,.i ((k:Int) - 1))]) ?_ (by simp);exact ih (i+1,(k:Int) - 1,(ys.set i y).set k x,_) ⟨by simp only;omega,by simp only;omega,hst,by rw[hG,List.set_set];simp[List.map_set,encSy]⟩ (by simp only;omega)
 ·have zq:m≤(i:Int):=by simpa using zg
  have hd:=hr.done (by omega);subst hd;repeat first|(refine r_ ?_;simp)|refine q_ ?_
  rw[hG,List.map_reverse]
def S0(v:Vst):AV:= .agg [.i v.s.1,.i v.s.2,.i v.fr,.i v.on.ty,.i v.on.num,.bool v.fst]
theorem c0l(V:List Vst)(L:List ((Int×Int)×List Sy))(hV:VOk V L)(i:Nat)(e:(Int×Int)×List Sy)(he:L[i]? =some e)(hl:V.length≤1000000):PC Tryz.prog 128 [.list (V.map S0),.i i] (fun r=>r=LSy e.2):=by
 refine Qh tOk Tryz.func128 rfl Tryz.results128 rfl (by simp[Tryz.ntmps128]) ?_;rw[Tryz.ntmps128];simp only[Qe];have ze:i<L.length:=(zA.1 he).1;have zf:=hV.len;repeat first|(refine r_ ?_;simp)|refine q_ ?_
 refine Q5 5 52 2 rfl ?_;simp;have hst:=SL.start [] 52 2;refine Ql (Qb (sl':=[(0,.list (V.map S0)),(1,.i i),(5,.sl 0 2 0 ([]:List Sy).length)]) ?_ (by simp));refine Qm (P:=Tryz.prog) (F:=fun(u:Nat×Nat×List Sy×List AObj)=>⟨[(0,.list (V.map S0)),(1,.i u.1),(5,.sl u.2.1 2 0 u.2.2.1.length)],u.2.2.2⟩)
  (fun u=>(∃d,L[u.1]? =some d∧e.2=d.2++u.2.2.1.reverse)∧u.2.2.1.length+u.1≤i∧u.2.2.2[u.2.1]? =some (.arr 52 2 (u.2.2.1.map encSy))) (fun u=>u.1) ?_ (i,0,[],_) ⟨⟨e,he,by simp⟩,by simp,by simp⟩
 rintro⟨k,q,out,G⟩ ⟨⟨d,hd,z1⟩,zc,gq⟩ ih;simp only at hd z1 zc gq ih ⊢;have z7:k<V.length:=by have:=(zA.1 hd).1;omega
 obtain⟨v,hv⟩:∃v,V[k]? =some v:=⟨_,zD z7⟩
 have za:=hV.way k v d hv hd;have z6:(V.map S0)[k]? =some (S0 v):=by rw[zQ,hv];rfl
 have z8:∀hh,(V.map S0)[k]'hh=S0 v:=fun hh=>(yT hh).2 z6;simp only[S0]at z6 z8;repeat first|(refine r_ ?_;simp[z6,z8,z7])|refine q_ ?_
 rcases za with⟨h1,h2⟩|⟨h1,h2,d',h3,h4⟩
 ·rw[h2,List.nil_append]at z1;rw[h1];refine Qa rfl (fun h=>by simp at h) (fun _=> ?_);repeat first|(refine r_ ?_;simp)|refine q_ ?_
  refine Wd rfl rfl (Cd G q out gq (by omega)) rfl ?_;rintro _ _ ⟨rfl,rfl⟩;simp;have zd:∀z,(G.set q z)[q]? =some z:=fun z=>Qo gq z;have zg:out.length=e.2.length:=by rw[z1];simp
  rw[z1];repeat first|(refine r_ ?_;simp[zd])|refine q_ ?_
  rw[zI (by simp)]
 ·rw[h1];refine Qa rfl (fun _=> ?_) (fun h=>by simp at h);have zb:(out.map encSy).length=out.length:=by simp
  repeat first|(refine r_ ?_;simp[z6,z8,z7])|refine q_ ?_
  refine Qf tOk rfl rfl T26 rfl T52 rfl (by decide) (by decide) rfl rfl rfl ?_;simp[Qc gq,Qj gq,zb];refine⟨by simp[Ws,Qc gq,Qj gq,zb]<;>omega,?_⟩;repeat first|(refine r_ ?_;simp[z6,z8,z7])|refine q_ ?_
  refine Qb (sl':=[(0,.list (V.map S0)),(1,.i v.fr),(5,.sl (G.length+1) 2 0 (out++[v.on]).length)]) ?_ (by simp);refine ih (v.fr,G.length+1,out++[v.on],_) ⟨⟨d',h3,by rw[z1,h4];simp⟩,by simp;omega,?_⟩ h2;simp only;rw[zC (by simp)];simp[encSy]
end Go.Abs
namespace Go.Abs
open Go Go.Proofs Go.Maps Go.RowKit
theorem c19(x y:Int):(if x<y then y else x)=max x y:=by omega
def x27:Option Int→AV
 |some n=> .tup [.i n,.bool true]
 |none=> .tup [.i 0,.bool false]
def z1g:Option Sy→AV
 |some x=> .tup [encSy x,.bool true]
 |none=> .tup [encSy ⟨0,0⟩,.bool false]
attribute [local irreducible] lqB Ce
end Go.Abs
namespace Go.Abs
open Go Go.Proofs Go.Maps Go.RowKit
def z1z:Option Int→AV
 |some m=> .tup [.i m,.bool true]
 |none=> .tup [.i 0,.bool false]
theorem q1c(l:List Iv)(n:Int):PC Tryz.prog 281 [LIv l,.i n] (fun r=>r=z1z (v0b l n)):=by
 refine Qh tOk Tryz.func281 rfl Tryz.results281 rfl (by simp[Tryz.ntmps281]) ?_;rw[Tryz.ntmps281];simp only[Qe];refine R9 0 rfl (fun hlen=> ?_);rw[zV]at hlen;obtain⟨R,hR⟩:∃R,v0b l n=R:=⟨_,rfl⟩
 rw[hR];repeat first|(refine r_ ?_;simp)|refine q_ ?_
 refine Qs l.length (fun j=>v0b (l.drop j) n=R) (fun j=>[(1,.i n),(8,LIv l),(9,.i l.length),(10,.i j)]) (fun _=>[]) rfl (by simp) (by simp) (by simp) (by simp) (by simpa using hR) ?_;intro j hj hI ih;repeat first|(refine r_ ?_;simp)|refine q_ ?_
 refine Qa rfl (fun za=> ?_) (fun zb=> ?_)
 ·have z1:j<l.length:=by simpa using za
  have hw:IntKind.i64.wrap ((j:Int)+1)=j+1:=wrap_i64 _ (by omega) (by omega);rw[Wu z1,v0b]at hI;have z7:(l.map encIv)[j]? =some (encIv l[j]):=by simp[z1]
  have z8:∀hh,(l.map encIv)[j]'hh=encIv l[j]:=fun hh=>by simp
  generalize l[j]=x at *;simp only[encIv]at z7 z8
  repeat first|(refine r_ ?_;simp[z7,z8,z1])|refine q_ ?_
  refine Qa rfl (fun h=> ?_) (fun h=> ?_)
  ·rw[if_pos (by simpa using h)]at hI;subst hI;repeat first|(refine r_ ?_;simp)|refine q_ ?_
   simp only[z1z,c19]
  ·rw[if_neg (by simpa using h)]at hI;repeat first|(refine r_ ?_;simp[hw])|refine q_ ?_
   refine Qr _ (ih z1 hI) rfl (by simp) ?_ (by simp) (by simp);simp
 ·have z6:j=l.length:=by simp at zb;omega
  subst z6;rw[yU]at hI;subst hI;repeat first|(refine r_ ?_;simp)|refine q_ ?_
  rfl
def bdL(l:List Iv):Prop:=∀x∈l,-1099511627776≤x.lo∧x.hi≤1099511627776
theorem z0d(l:List Iv)(n:Int)(hb:bdL l):PC Tryz.prog 282 [LIv l,.i n] (fun r=>r= .i (q0m l n)):=by
 refine Qh tOk Tryz.func282 rfl Tryz.results282 rfl (by simp[Tryz.ntmps282]) ?_;rw[Tryz.ntmps282];simp only[Qe];refine R9 0 rfl (fun hlen=> ?_);rw[zV]at hlen;obtain⟨R,hR⟩:∃R,q0m l n=R:=⟨_,rfl⟩
 rw[hR];repeat first|(refine r_ ?_;simp)|refine q_ ?_
 refine Ql (Qb (sl':=[(1,.i n),(7,LIv l),(8,.i l.length),(9,.i (0:Nat))]) ?_ (by simp));refine Qm (P:=Tryz.prog) (F:=fun(u:Nat×Int×List AObj)=>⟨[(1,.i u.2.1),(7,LIv l),(8,.i l.length),(9,.i u.1)],u.2.2⟩)
  (fun u=>u.1≤l.length∧q0m (l.drop u.1) u.2.1=R) (fun u=>l.length - u.1) ?_ (0,n,[]) ⟨xA _,by simpa using hR⟩
 clear hR;rintro⟨j,c,G⟩ ⟨hj,hI⟩ ih;simp only at hj hI ih ⊢;repeat first|(refine r_ ?_;simp)|refine q_ ?_
 refine Qa rfl (fun zb=> ?_) (fun zc=> ?_)
 ·have z1:j<l.length:=by simpa using zb
  have hw:IntKind.i64.wrap ((j:Int)+1)=j+1:=wrap_i64 _ (by omega) (by omega);rw[Wu z1,q0m]at hI;have z6:(l.map encIv)[j]? =some (encIv l[j]):=by simp[z1]
  have z7:∀hh,(l.map encIv)[j]'hh=encIv l[j]:=fun hh=>by simp
  have hx:=hb _ (zG z1);generalize l[j]=x at *;simp only[encIv]at z6 z7
  by_cases h1:x.lo≤c
  ·have d1:decide (x.lo≤c)=true:=by simpa using h1
   repeat first|(refine r_ ?_;simp[z6,z7,z1,d1])|refine q_ ?_
   refine Qa rfl (fun h=> ?_) (fun h=> ?_)
   ·have h2:c≤x.hi:=by simpa using h
    rw[if_pos ⟨h1,h2⟩]at hI;have z8:IntKind.i64.wrap (x.hi+1)=x.hi+1:=wrap_i64 _ (by omega) (by omega);repeat first|(refine r_ ?_;simp[z8,hw])|refine q_ ?_
    refine Qb (sl':=[(1,.i (x.hi+1)),(7,LIv l),(8,.i l.length),(9,.i (j+1:Nat))]) ?_ (by simp);exact ih (j+1,x.hi+1,_) ⟨by simp only;omega,hI⟩ (by simp only;omega)
   ·have h2:¬c≤x.hi:=by simpa using h
    rw[if_neg (fun k=>h2 k.2)]at hI;repeat first|(refine r_ ?_;simp[hw])|refine q_ ?_
    refine Qb (sl':=[(1,.i c),(7,LIv l),(8,.i l.length),(9,.i (j+1:Nat))]) ?_ (by simp);exact ih (j+1,c,_) ⟨by simp only;omega,hI⟩ (by simp only;omega)
  ·have d1:decide (x.lo≤c)=false:=by simpa using h1
   rw[if_neg (fun k=>h1 k.1)]at hI;repeat first|(refine r_ ?_;simp[z6,z7,z1,d1])|refine q_ ?_
   refine Qa rfl (fun h=>by simp at h) (fun h=> ?_);repeat first|(refine r_ ?_;simp[hw])|refine q_ ?_
   refine Qb (sl':=[(1,.i c),(7,LIv l),(8,.i l.length),(9,.i (j+1:Nat))]) ?_ (by simp);exact ih (j+1,c,_) ⟨by simp only;omega,hI⟩ (by simp only;omega)
 ·have za:j=l.length:=by simp at zc;omega
  subst za;rw[yU]at hI;subst hI;repeat first|(refine r_ ?_;simp)|refine q_ ?_
  rfl
def z18:Option Int→AV
 |some m=> .tup [.i m,.bool (decide (m≤1099511627776))]
 |none=> .tup [.i 0,.bool false]
def w2w(O:List (List Iv)):Option Int→Option Int
 |some m=>some (f0h O m)
 |none=>none
theorem v1x(I O:List (List Iv))(n:Int):x1j I O n=w2w O (v05 I n):=by unfold x1j w2w;cases v05 I n<;>rfl
theorem Mi{t:Nat}{ps:List Prd}{j:Nat}(h:j<ps.length):A2 t (ps.drop j)=ps[j].getD t []::A2 t (ps.drop (j+1)):=by unfold A2;rw[Wu h];rfl
theorem q2d{T:Nat}{p:Prd}(h:PCk T p){s:List Iv}(hs:s∈p):bdL s:=fun x hx=>by obtain⟨i,hi,rfl⟩:=List.getElem_of_mem hx;have:=(h.2 s hs).iv hi;omega
theorem u0m{p:Prd}{t:Nat}(h:t<p.length):p.getD t []=p[t]:=by simp[yQ,h]
theorem Lf{T:Nat}{p:Prd}(h:PCk T p){t:Nat}(ht:t<T):(p.map encL)[t]? =some (encL (p.getD t []))∧p.getD t []∈p:=by
 have hl:t<p.length:=by rw[h.1];exact ht
 rw[u0m hl];exact⟨by simp[hl],zG hl⟩
attribute [local irreducible] v0b q0m
theorem y10(T:Nat)(ins outs:List Prd)(zj:∀p∈ins,PCk T p)(zc:∀p∈outs,PCk T p)(t:Nat)(ht:t<T)(n:Int):PC Tryz.prog 233 [.i n,.i t,LP ins,LP outs] (fun r=>r=z18 (x1j (A2 t ins) (A2 t outs) n)):=by
 refine Qh tOk Tryz.func233 rfl Tryz.results233 rfl (by simp[Tryz.ntmps233]) ?_;rw[Tryz.ntmps233];simp only[Qe];refine R9 2 rfl (fun hlen=> ?_);refine R9 3 rfl (fun z7=> ?_);rw[zV]at hlen z7;obtain⟨R,hR⟩:∃R,x1j (A2 t ins) (A2 t outs) n=R:=⟨_,rfl⟩
 rw[hR];rw[v1x]at hR;repeat first|(refine r_ ?_;simp)|refine q_ ?_
 refine Ql (Qb (sl':=[(0,.i n),(1,.i t),(3,LP outs),(16,LP ins),(17,.i ins.length),(18,.i (0:Nat))]) ?_ (by simp));refine Qm (P:=Tryz.prog) (F:=fun(u:Nat×Int×List AObj)=>⟨[(0,.i u.2.1),(1,.i t),(3,LP outs),(16,LP ins),(17,.i ins.length),(18,.i u.1)],u.2.2⟩)
  (fun u=>u.1≤ins.length∧w2w (A2 t outs) (v05 (A2 t (ins.drop u.1)) u.2.1)=R) (fun u=>ins.length - u.1) ?_ (0,n,[]) ⟨xA _,by simpa using hR⟩
 clear hR;rintro⟨j,c,G⟩ ⟨hj,hI⟩ ih;simp only at hj hI ih ⊢;repeat first|(refine r_ ?_;simp)|refine q_ ?_
 refine Qa rfl (fun zd=> ?_) (fun ze=> ?_)
 ·have z1:j<ins.length:=by simpa using zd
  have hw:IntKind.i64.wrap ((j:Int)+1)=j+1:=wrap_i64 _ (by omega) (by omega);rw[Mi z1,v05]at hI;have z8:(ins.map encP)[j]? =some (encP ins[j]):=by simp[z1]
  have za:∀hh,(ins.map encP)[j]'hh=encP ins[j]:=fun hh=>by simp
  have hp:=zj _ (zG z1);generalize ins[j]=p at *
  obtain⟨zb,zh⟩:=Lf hp ht;have zf:∀hh,(p.map encL)[t]'hh=encL (p.getD t []):=fun hh=>(yT hh).2 zb;have zg:t<p.length:=by rw[hp.1];exact ht
  generalize p.getD t []=s at *;simp only[encP]at z8 za
  repeat first|(refine r_ ?_;simp[z8,za,z1,zb,zf,zg])|refine q_ ?_
  refine Qd rfl rfl (by simp) (q1c s c) rfl ?_;rintro _ rfl;simp;cases hf:v0b s c with
  |none=>
   rw[hf]at hI;simp only at hI;subst hI;simp[z1z];repeat first|(refine r_ ?_;simp)|refine q_ ?_
   refine Qa rfl (fun _=> ?_) (fun h=>by simp at h);repeat first|(refine r_ ?_;simp)|refine q_ ?_
   rfl
  |some m=>
   rw[hf]at hI;simp only at hI;simp[z1z];repeat first|(refine r_ ?_;simp)|refine q_ ?_
   refine Qa rfl (fun h=>by simp at h) (fun _=> ?_);repeat first|(refine r_ ?_;simp[hw])|refine q_ ?_
   refine Qb (sl':=[(0,.i m),(1,.i t),(3,LP outs),(16,LP ins),(17,.i ins.length),(18,.i (j+1:Nat))]) ?_ (by simp);exact ih (j+1,m,_) ⟨by simp only;omega,hI⟩ (by simp only;omega)
 ·have z6:j=ins.length:=by simp at ze;omega
  subst z6;rw[yU]at hI;simp only[A2,xO,v05]at hI;clear ih;repeat first|(refine r_ ?_;simp)|refine q_ ?_
  have zi:some (f0h (A2 t outs) c)=R:=hI;refine Ql (Qb (sl':=[(0,.i c),(1,.i t),(36,LP outs),(37,.i outs.length),(38,.i (0:Nat))]) ?_ (by simp));refine Qm (P:=Tryz.prog) (F:=fun(u:Nat×Int×List AObj)=>⟨[(0,.i u.2.1),(1,.i t),(36,LP outs),(37,.i outs.length),(38,.i u.1)],u.2.2⟩)
   (fun u=>u.1≤outs.length∧some (f0h (A2 t (outs.drop u.1)) u.2.1)=R) (fun u=>outs.length - u.1) ?_ (0,c,G) ⟨xA _,by simpa using zi⟩
  clear hI zi;clear G c;rintro⟨j,c,G⟩ ⟨hj,hI⟩ ih;simp only at hj hI ih ⊢;repeat first|(refine r_ ?_;simp)|refine q_ ?_
  refine Qa rfl (fun zd=> ?_) (fun ze=> ?_)
  ·have z1:j<outs.length:=by simpa using zd
   have hw:IntKind.i64.wrap ((j:Int)+1)=j+1:=wrap_i64 _ (by omega) (by omega);rw[Mi z1,f0h]at hI;have z8:(outs.map encP)[j]? =some (encP outs[j]):=by simp[z1]
   have za:∀hh,(outs.map encP)[j]'hh=encP outs[j]:=fun hh=>by simp
   have hp:=zc _ (zG z1);generalize outs[j]=p at *
   obtain⟨zb,zh⟩:=Lf hp ht;have zf:∀hh,(p.map encL)[t]'hh=encL (p.getD t []):=fun hh=>(yT hh).2 zb;have zg:t<p.length:=by rw[hp.1];exact ht
   have zk:=q2d hp zh;generalize p.getD t []=s at *;simp only[encP]at z8 za
   repeat first|(refine r_ ?_;simp[z8,za,z1,zb,zf,zg])|refine q_ ?_
   refine Qd rfl rfl (by simp) (z0d s c zk) rfl ?_;rintro _ rfl;simp;generalize q0m s c=m at *
   repeat first|(refine r_ ?_;simp[hw])|refine q_ ?_
   refine Qb (sl':=[(0,.i m),(1,.i t),(36,LP outs),(37,.i outs.length),(38,.i (j+1:Nat))]) ?_ (by simp);exact ih (j+1,m,_) ⟨by simp only;omega,hI⟩ (by simp only;omega)
  ·have z6:j=outs.length:=by simp at ze;omega
   subst z6;rw[yU]at hI;simp only[A2,xO,f0h]at hI;subst hI;repeat first|(refine r_ ?_;simp)|refine q_ ?_
   simp[z18]
theorem c1j{T:Nat}{ps:List Prd}(h:∀p∈ps,PCk T p){t:Nat}(ht:t<T):∀l∈A2 t ps,Sep l:=fun l hl=>by unfold A2 at hl;obtain⟨p,hp,rfl⟩:=zM.1 hl;exact Ag ((h p hp).2 _ (Lf (h p hp) ht).2)
attribute [local irreducible] x1j Gj
theorem Vo(T:Nat)(hT:T≤1000)(ins outs:List Prd)(zi:∀p∈ins,PCk T p)(ze:∀p∈outs,PCk T p)(P:Prd)(hf:FitP T ins outs P):PC Tryz.prog 193 [.i T,LP ins,LP outs] (fun r=>r=z1g (Xa P)):=by
 refine Qh tOk Tryz.func193 rfl Tryz.results193 rfl (by simp[Tryz.ntmps193]) ?_;rw[Tryz.ntmps193];simp only[Qe];have hex:=fun t n=>hf.mem t n;have za:=fun t n h1 h2 h3 h4 h5=>hf.some (t:=t) (n:=n) h1 h2 h3 h4 h5;have zb:=hf.none;have zj:=fun t h k=>hf.no (t:=t) h k;generalize Xa P=R at *
 repeat first|(refine r_ ?_;simp)|refine q_ ?_
 refine Ql (Qb (sl':=[(1,LP ins),(2,LP outs),(6,.vptr 0 0),(12,.i T),(13,.i (0:Nat))]) ?_ (by simp));refine Qm (P:=Tryz.prog) (F:=fun(t:Nat)=>⟨[(1,LP ins),(2,LP outs),(6,.vptr 0 0),(12,.i T),(13,.i t)],[.vars [.i 0,.i 0]]⟩)
  (fun t=>t≤T∧∀t',t'<t→∀k,¬PM P t' k) (fun t=>T - t) ?_ 0 ⟨xA _,fun t' h=>absurd h (tB _)⟩
 rintro t ⟨zn,hb⟩ ih;repeat first|(refine r_ ?_;simp)|refine q_ ?_
 refine Qa rfl (fun zk=> ?_) (fun zl=> ?_)
 ·have z6:t<T:=by simpa using zk
  have hw:IntKind.i64.wrap ((t:Int)+1)=t+1:=wrap_i64 _ (by omega) (by omega);have zc:=fun n=>y10 T ins outs zi ze t z6 n;have zm:=fun n=>w1r (A2 t ins) (A2 t outs) n (c1j zi z6);have z7:=fun n=>za t n z6 hb;have zf:=zj t;generalize A2 t ins=I at *;generalize A2 t outs=O at *
  repeat first|(refine r_ ?_;simp)|refine q_ ?_
  refine Ql (Qb (sl':=[(1,LP ins),(2,LP outs),(6,.vptr 0 0),(8,.i t),(9,.i (-1099511627776)),(12,.i T),(13,.i t)]) ?_ (by simp));refine Qm (P:=Tryz.prog) (F:=fun(n:Int)=>⟨[(1,LP ins),(2,LP outs),(6,.vptr 0 0),(8,.i t),(9,.i n),(12,.i T),(13,.i t)],[.vars [.i 0,.i 0]]⟩)
   (fun n=>inR n∧∀k,inR k→Gj I O k→n≤k) (fun n=>(1099511627777 - n).toNat) ?_ (-1099511627776) ⟨by unfold inR;omega,fun k hk _=>hk.1⟩
  rintro n ⟨hn,z1⟩ ih2;repeat first|(refine r_ ?_;simp)|refine q_ ?_
  refine Qd rfl rfl (by simp) (zc n) rfl ?_;rintro _ rfl;simp;have z8:=zm n;have zd:(∀k,inR k→¬Gj I O k)→∀t',t'<t+1→∀k,¬PM P t' k:=fun h t' zo k=>by
   by_cases e:t'=t
   ·subst e;exact zf h k
   ·exact hb t' (by omega) k
  cases hx:x1j I O n with
  |none=>
   rw[hx]at z8;simp only at z8;simp[z18];repeat first|(refine r_ ?_;simp)|refine q_ ?_
   refine Qa rfl (fun _=> ?_) (fun h=>by simp at h);repeat first|(refine r_ ?_;simp[hw])|refine q_ ?_
   refine Qb (sl':=[(1,LP ins),(2,LP outs),(6,.vptr 0 0),(12,.i T),(13,.i (t+1:Nat))]) ?_ (by simp);exact ih (t+1) ⟨by omega,zd fun k hk hg=>z8 k (z1 k hk hg) hg⟩ (by omega)
  |some m=>
   rw[hx]at z8;simp only at z8;obtain⟨s1,s2,s3⟩:=z8;simp[z18];by_cases hm:m≤1099511627776
   ·repeat first|(refine r_ ?_;simp[hm])|refine q_ ?_
    refine Qa rfl (fun h=>by simp[hm]at h) (fun _=> ?_);repeat first|(refine r_ ?_;simp)|refine q_ ?_
    refine Qa rfl (fun h=> ?_) (fun h=> ?_)
    ·have e:m=n:=by simpa using h
     have zg:=z7 n hn (s3 e) z1;subst zg;repeat first|(refine r_ ?_;simp)|refine q_ ?_
     simp[z1g,encSy]
    ·have e:m≠n:=by simpa using h
     repeat first|(refine r_ ?_;simp)|refine q_ ?_
     refine Qb (sl':=[(1,LP ins),(2,LP outs),(6,.vptr 0 0),(8,.i t),(9,.i m),(12,.i T),(13,.i t)]) ?_ (by simp);exact ih2 m ⟨⟨by have:=hn.1;omega,hm⟩,fun k hk hg=>s2 k (z1 k hk hg) hg⟩ (by have:=hn.1;omega)
   ·repeat first|(refine r_ ?_;simp[hm])|refine q_ ?_
    refine Qa rfl (fun _=> ?_) (fun h=>by simp[hm]at h);repeat first|(refine r_ ?_;simp[hw])|refine q_ ?_
    refine Qb (sl':=[(1,LP ins),(2,LP outs),(6,.vptr 0 0),(12,.i T),(13,.i (t+1:Nat))]) ?_ (by simp);exact ih (t+1) ⟨by omega,zd fun k hk hg=>hm (Int.le_trans (s2 k (z1 k hk hg) hg) hk.2)⟩ (by omega)
 ·have zh:t=T:=by simp at zl;omega
  subst zh;have zg:=zb hb;subst zg;repeat first|(refine r_ ?_;simp)|refine q_ ?_
  simp[z1g,encSy]
end Go.Abs
namespace Go.Abs
open Go Go.Proofs Go.Maps Go.RowKit
section
variable {P:Program} [Env P] {nt k:Nat} {ops:Array Oper} {o:Oper} {R:AS→Prop}
theorem Xq{wr:Bool}{sl:List (Nat×AV)}{H:List AObj}(i:Nat){e c:Nat}{xs:List AV}(hi:H[i]? =some (.arr e c xs))(h:Wm P nt k wr ops o ⟨sl,H.set i (.arr e c (xs.map AV.nrm))⟩ R):Wm P nt k wr ops o ⟨sl,H⟩ R:=
 fun C a w K Q hs=>h C a w K Q (hs.swap hi rfl (fun _ _=>Uv.nrmArr))
end
def W1(s:Int):Option Mv→AV
 |some m=>encMv m
 |none=> .agg [.i s,.i (-1),.list []]
theorem q07{a:Aut}{s:Int}{j:Nat}(h:j<a.mv.length):(a.mv.take (j+1)).filter (fun m=>decide (m.src=s))=(a.mv.take j).filter (fun m=>decide (m.src=s))++(if a.mv[j].src=s then [a.mv[j]]else []):=by
 rw[zL h,List.filter_append]
 congr 1
 by_cases e:a.mv[j].src=s<;>simp[e]
theorem y2t(a:Aut)(s:Int)(j:Nat):((a.mv.take j).filter fun m=>decide (m.src=s)).length≤a.mv.length:=Nat.le_trans (wU _ _) (by rw[List.length_take];omega)
theorem Ge(a:Aut)(s:Int)(zm:a.mv.length≤1000000):PC Tryz.prog 191 [encA a,.i s] (fun r=>r= .list ((Wg a s).map (W1 s))):=by
 refine Qh tOk Tryz.func191 rfl Tryz.results191 rfl (by simp[Tryz.ntmps191]) ?_;rw[Tryz.ntmps191];simp only[Qe];simp only[encA];refine Wk 0 2 rfl rfl (fun hlen=> ?_);rw[zV]at hlen;repeat first|(refine r_ ?_;simp)|refine q_ ?_
 have zc:=fun j (h:j<a.mv.length)=>q07 (a:=a) (s:=s) h;have zd:=fun j=>y2t a s j;refine Q5 5 73 3 rfl ?_;simp;obtain⟨K,hK⟩:∃K,K=[AObj.vars (Qp a)]:=⟨_,rfl⟩
 have hst:=SL.start K 73 3;refine Ql (Qb (sl':=[(1,.i s),(5,.sl 1 3 0 ((a.mv.take 0).filter fun m=>decide (m.src=s)).length),(9,.list (a.mv.map encMv)),(10,.i a.mv.length),(11,.i (0:Nat))]) ?_ (by simp));refine Qm (P:=Tryz.prog) (F:=fun(u:Nat×Nat×List AObj)=>⟨[(1,.i s),(5,.sl u.2.1 3 0 ((a.mv.take u.1).filter fun m=>decide (m.src=s)).length),(9,.list (a.mv.map encMv)),(10,.i a.mv.length),(11,.i u.1)],u.2.2⟩)
  (fun u=>u.1≤a.mv.length∧SL K u.2.2 u.2.1 73 3 (((a.mv.take u.1).filter fun m=>decide (m.src=s)).map encMv)) (fun u=>a.mv.length - u.1) ?_ (0,1,_) ⟨xA _,by rw[hK]at hst ⊢;simpa using hst⟩
 rintro⟨j,q,G⟩ ⟨hj,g⟩ ih;simp only at hj g ih ⊢;have z8:=zd j;repeat first|(refine r_ ?_;simp)|refine q_ ?_
 refine Qa rfl (fun ze=> ?_) (fun zf=> ?_)
 ·have z1:j<a.mv.length:=by simpa using ze
  have hw:IntKind.i64.wrap ((j:Int)+1)=j+1:=wrap_i64 _ (by omega) (by omega);have zg:=zc j z1;have z6:=fun q' G'=>ih (j+1,q',G');simp only[zg]at z6;have za:(a.mv.map encMv)[j]? =some (encMv a.mv[j]):=by simp[z1]
  have zb:∀hh,(a.mv.map encMv)[j]'hh=encMv a.mv[j]:=fun hh=>by simp
  generalize a.mv[j]=m at *;generalize (a.mv.take j).filter (fun m=>decide (m.src=s))=P at *
  have z7:(P.map encMv).length=P.length:=by simp
  simp only[encMv]at za zb;repeat first|(refine r_ ?_;simp[za,zb,z1])|refine q_ ?_
  refine Qa rfl (fun h=> ?_) (fun h=> ?_)
  ·have e:m.src=s:=by simpa using h
   rw[if_pos e]at z6;repeat first|(refine r_ ?_;simp)|refine q_ ?_
   refine Qf tOk rfl rfl T23 rfl T73 rfl (by decide) (by decide) rfl rfl rfl ?_;simp[Qc g.arr,Qj g.arr,z7];refine⟨by simp[Ws,Qc g.arr,Qj g.arr,z7]<;>omega,?_⟩;repeat first|(refine r_ ?_;simp[hw])|refine q_ ?_
   refine Qb (sl':=[(1,.i s),(5,.sl (G.length+2) 3 0 (P++[m]).length),(9,.list (a.mv.map encMv)),(10,.i a.mv.length),(11,.i (j+1:Nat))]) ?_ (by simp);have:=z6 (G.length+2) _ ⟨by omega,g.put [AObj.vars [.i m.src,.i m.dst,.list (m.on.map encL)],AObj.arr 73 3 [encMv m]] ((P++[m]).map encMv) rfl⟩ (by omega);simpa[encMv]using this
  ·have e:m.src≠s:=by simpa using h
   rw[if_neg e,xV]at z6;repeat first|(refine r_ ?_;simp[hw])|refine q_ ?_
   refine Qb (sl':=[(1,.i s),(5,.sl q 3 0 P.length),(9,.list (a.mv.map encMv)),(10,.i a.mv.length),(11,.i (j+1:Nat))]) ?_ (by simp);exact z6 q _ ⟨by omega,g.add _⟩ (by omega)
 ·have zh:j=a.mv.length:=by simp at zf;omega
  subst zh;have zi:a.mv.take a.mv.length=a.mv:=zZ;rw[zi]at g z8 ⊢;have zj:a.mv.filter (fun m=>decide (m.src=s))=mvS a s:=rfl;have zk:(Wg a s).map (W1 s)=(mvS a s).map encMv++[.agg [.i s,.i (-1),.list []]]:=by unfold Wg;simp[W1]
  rw[zk];rw[zj]at g z8 ⊢;generalize mvS a s=P at *
  have z7:(P.map encMv).length=P.length:=by simp
  repeat first|(refine r_ ?_;simp)|refine q_ ?_
  refine Xq G.length (e:=73) (c:=3) (xs:=[.agg [.i s,.i (-1),.nils]]) (by simp) ?_;have zl:∀u z:AObj,(G++[u]).set G.length z=G++[z]:=fun u z=>by rw[List.set_append_right _ _ (by simp)];simp
  simp[zl];refine Qf tOk rfl rfl T23 rfl T73 rfl (by decide) (by decide) rfl rfl rfl ?_;simp[Qc g.arr,Qj g.arr,z7];refine⟨by simp[Ws,Qc g.arr,Qj g.arr,z7]<;>omega,?_⟩;repeat first|(refine r_ ?_;simp)|refine q_ ?_
  rw[zI (by simp)]
theorem Vf(a:Aut)(s:Int)(i:Nat)(o:Option Mv)(h:(Wg a s)[i]? =some o)(hl:a.mv.length≤1000000):PC Tryz.prog 192 [.list ((Wg a s).map (W1 s)),.i i] (fun r=>r= .tup [LP (Jz o),LP (Aw a s o)]):=by
 refine Qh tOk Tryz.func192 rfl Tryz.results192 rfl (by simp[Tryz.ntmps192]) ?_;rw[Tryz.ntmps192];simp only[Qe];have zr:(mvS a s).length≤a.mv.length:=wU _ _;have zh:(Wg a s).length=(mvS a s).length+1:=by unfold Wg;simp
 have zi:i<(Wg a s).length:=(zA.1 h).1;have zj:IntKind.i64.wrap ((mvS a s).length:Int)=(mvS a s).length:=wrap_i64 _ (by omega) (by omega);repeat first|(refine r_ ?_;simp[zh,zj])|refine q_ ?_
 refine Qa rfl (fun zk=> ?_) (fun zl=> ?_)
 ·have z7:i<(mvS a s).length:=by simpa using zk
  obtain⟨m,rfl,z6⟩:∃m,o=some m∧((Wg a s).map (W1 s))[i]? =some (encMv m):=by unfold Wg at h ⊢;rw[zE (by simpa using z7)]at h;rw[zQ,zE (by simpa using z7),h];rw[zQ]at h;obtain⟨m,_,rfl⟩:=zN.1 h;exact⟨m,rfl,rfl⟩
  have z8:∀hh,((Wg a s).map (W1 s))[i]'hh=encMv m:=fun hh=>(yT hh).2 z6;generalize Wg a s=L at *;simp only[encMv]at z6 z8
  repeat first|(refine r_ ?_;simp[z6,z8,zi])|refine q_ ?_
  exact⟨rfl,rfl⟩
 ·have zm:i=(mvS a s).length:=by simp at zl;omega
  subst zm;obtain rfl:o=none:=by unfold Wg at h;rw[zC (by simp)]at h;simpa using h.symm
  have zn:((Wg a s).map (W1 s)).take (mvS a s).length=(mvS a s).map encMv:=by unfold Wg;rw[yG,List.take_append_of_le_length (by simp),zI (by simp)];simp[W1]
  have hle:(mvS a s).length≤(Wg a s).length:=by omega
  repeat first|(refine r_ ?_;simp[hle])|refine q_ ?_
  rw[if_pos (fun o ho=>by cases o<;>rfl)];simp;rw[zn];have za:min (mvS a s).length (Wg a s).length=(mvS a s).length:=by omega
  rw[za];have zb:Aw a s none=(mvS a s).map (·.on):=rfl;rw[zb];generalize mvS a s=P at *;refine Q5 5 70 1 rfl ?_
  simp;repeat first|(refine r_ ?_;simp)|refine q_ ?_
  refine Ql (Qb (sl':=[(4,.nils),(5,.sl 0 1 0 (0:Nat)),(21,.list (P.map encMv)),(22,.i P.length),(23,.i (0:Nat))]) ?_ (by simp));refine Qm (P:=Tryz.prog) (F:=fun(u:Nat×Nat×List AObj)=>⟨[(4,.nils),(5,.sl u.2.1 1 0 u.1),(21,.list (P.map encMv)),(22,.i P.length),(23,.i u.1)],u.2.2⟩)
   (fun u=>u.1≤P.length∧u.2.2[u.2.1]? =some (.arr 70 1 ((P.take u.1).map fun m=>encP m.on))) (fun u=>P.length - u.1) ?_ (0,0,_) ⟨xA _,by simp⟩
  rintro⟨j,q,G⟩ ⟨hj,gq⟩ ih;simp only at hj gq ih ⊢;repeat first|(refine r_ ?_;simp)|refine q_ ?_
  refine Qa rfl (fun zc=> ?_) (fun zd=> ?_)
  ·have z1:j<P.length:=by simpa using zc
   have zo:IntKind.i64.wrap ((j:Int)+1)=j+1:=wrap_i64 _ (by omega) (by omega);have ze:(P.take (j+1)).map (fun m=>encP m.on)=(P.take j).map (fun m=>encP m.on)++[encP P[j].on]:=by rw[zL z1,yG];rfl
   have zf:=fun q' G'=>ih (j+1,q',G');simp only[ze]at zf;have z6:(P.map encMv)[j]? =some (encMv P[j]):=by simp[z1]
   have z8:∀hh,(P.map encMv)[j]'hh=encMv P[j]:=fun hh=>by simp
   have zg:((P.take j).map fun m=>encP m.on).length=j:=by simp;omega
   clear ze;generalize (P.take j).map (fun m=>encP m.on)=acc at *
   generalize P[j]=m at *;simp only[encMv]at z6 z8
   repeat first|(refine r_ ?_;simp[z6,z8,z1])|refine q_ ?_
   refine Qf tOk rfl rfl T87 rfl T70 rfl (by decide) (by decide) rfl rfl rfl ?_;simp[Qc gq,Qj gq,zg];refine⟨by simp[Ws,Qc gq,Qj gq,zg]<;>omega,?_⟩;repeat first|(refine r_ ?_;simp[zo])|refine q_ ?_
   refine Qb (sl':=[(4,.nils),(5,.sl (G.length+2) 1 0 (j+1)),(21,.list (P.map encMv)),(22,.i P.length),(23,.i (j+1:Nat))]) ?_ (by simp);refine zf (G.length+2) _ ⟨by omega,?_⟩ (by omega);rw[zC (by simp)];simp[encP]
  ·have zp:j=P.length:=by simp at zd;omega
   subst zp;rw[zZ]at gq;have zq:P.map (fun m=>encP m.on)=(P.map (·.on)).map encP:=by rw[uZ];rfl
   rw[zq]at gq;repeat first|(refine r_ ?_;simp[gq])|refine q_ ?_
   refine⟨rfl,?_⟩;rw[zI (by simp)]
end Go.Abs
namespace Go.Abs
open Go Go.Proofs Go.Maps Go.RowKit
attribute [simp] T25 T35
theorem w0c(a b:Aut):PC Tryz.prog 126 [encA a,encA b] (fun r=>r= .i (Ev a b)):=by
 refine Qh tOk Tryz.func126 rfl Tryz.results126 rfl (by simp[Tryz.ntmps126]) ?_;rw[Tryz.ntmps126];simp only[Qe];have cA:=I7 a;have cB:=I7 b;simp only[encA]at cA cB ⊢;obtain⟨R,hR⟩:∃R,Ev a b=R:=⟨_,rfl⟩
 rw[hR];unfold Ev at hR;have w1:IntKind.i64.wrap 1=1:=by decide
 have w2:IntKind.i64.wrap 2=2:=by decide
 repeat first|(refine r_ ?_;simp)|refine q_ ?_
 refine Qs 2 (fun j=>j=0∨Wl a=0∧(j=1∨Wl b=0)) (fun j=>[(2,.vptr 0 0),(3,.vptr 1 0),(10,.sl 2 3 0 2),(11,.i (2:Nat)),(12,.i j)]) (fun _=>[.vars (Qp a),.vars (Qp b),.arr 25 3 [.agg (Qp a),.agg (Qp b)]]) rfl (by simp) (by simp) (by simp) (by simp) (.inl rfl) ?_;intro j hj hI ih;repeat first|(refine r_ ?_;simp)|refine q_ ?_
 refine Qa rfl (fun z8=> ?_) (fun za=> ?_)
 ·have z1:j<2:=by simp at z8;omega
  obtain rfl|rfl:j=0∨j=1:=by omega
  ·repeat first|(refine r_ ?_;simp)|refine q_ ?_
   refine Qd rfl rfl (by simp) (cA) rfl ?_;rintro _ rfl;simp;repeat first|(refine r_ ?_;simp)|refine q_ ?_
   refine Qa rfl (fun h=> ?_) (fun h=> ?_)
   ·rw[if_pos (by simpa using h)]at hR;subst hR;repeat first|(refine r_ ?_;simp)|refine q_ ?_
   ·repeat first|(refine r_ ?_;simp[w1])|refine q_ ?_
    refine Qr _ (ih z1 (.inr ⟨by simpa using h,.inl rfl⟩)) rfl (by simp) ?_ (by simp) (by simp);simp
  ·have h0:Wl a=0:=by rcases hI with h|h;exact absurd h (by decide);exact h.1
   rw[if_neg (by simpa using h0)]at hR;repeat first|(refine r_ ?_;simp)|refine q_ ?_
   refine Qd rfl rfl (by simp) (cB) rfl ?_;rintro _ rfl;simp;repeat first|(refine r_ ?_;simp)|refine q_ ?_
   refine Qa rfl (fun h=> ?_) (fun h=> ?_)
   ·rw[if_pos (by simpa using h)]at hR;subst hR;repeat first|(refine r_ ?_;simp)|refine q_ ?_
   ·repeat first|(refine r_ ?_;simp[w2])|refine q_ ?_
    refine Qr _ (ih z1 (.inr ⟨h0,.inr (by simpa using h)⟩)) rfl (by simp) ?_ (by simp) (by simp);simp
 ·have z6:j=2:=by simp at za;omega
  subst z6;have z7:Wl a=0∧Wl b=0:=by
   rcases hI with h|⟨h1,h2⟩
   ·exact absurd h (by decide)
   ·exact⟨h1,h2.elim (fun h=>absurd h (by decide)) id⟩
  rw[if_neg (by simpa using z7.1),if_neg (by simpa using z7.2)]at hR;repeat first|(refine r_ ?_;simp)|refine q_ ?_
  refine Qa rfl (fun h=> ?_) (fun h=> ?_)
  ·rw[if_pos (by simpa using h)]at hR;subst hR;repeat first|(refine r_ ?_;simp)|refine q_ ?_
  ·rw[if_neg (by simpa using h)]at hR;subst hR;repeat first|(refine r_ ?_;simp)|refine q_ ?_
theorem w0q{n j:Nat}(h:j≤n){p:Int→Bool}(hp:∀i:Nat,i<j→p i=true)(hn:j=n∨p j=false):(We n).all p=decide (j=n):=by
 rw[yX,List.all_eq_true,decide_eq_true_eq];constructor
 ·intro k;rcases hn with e|e
  ·exact e
  ·by_cases e2:j=n
   ·exact e2
   ·have:=k j (Wo.2 ⟨by omega,by omega⟩);rw[e]at this;cases this
 ·intro e z hz;obtain⟨h0,h1⟩:=Wo.1 hz;obtain⟨i,rfl⟩:=uE h0;exact hp i (by omega)
def onF(a:Aut)(s:Int)(j:Nat):List Prd:=((a.mv.take j).filter fun m=>decide (m.src=s)).map (·.on)
theorem z1t(a:Aut)(s:Int):onF a s 0=[]:=by simp[onF]
theorem z1x(a:Aut)(s:Int){j:Nat}(h:j<a.mv.length):onF a s (j+1)=onF a s j++(if a.mv[j].src=s then [a.mv[j].on]else []):=by
 unfold onF;rw[q07 h,yG]
 congr 1
 split<;>rfl
theorem v14(a:Aut)(s:Int):onF a s a.mv.length=Aw a s none:=by unfold onF;rw[zZ];rfl
theorem v1l(a:Aut)(s:Int)(j:Nat):(onF a s j).length≤a.mv.length:=by unfold onF;rw[zV];exact y2t a s j
theorem x1f(y:Option Sy):z1g y= .tup [.agg [.i (y.getD ⟨0,0⟩).ty,.i (y.getD ⟨0,0⟩).num],.bool y.isSome]:=by cases y<;>rfl
attribute [local irreducible] x16 Xa V7 onF
theorem q0g(a:Aut)(ha:OkA a):PC Tryz.prog 134 [encA a] (fun r=>r= .bool (Jc a)):=by
 refine Qh tOk Tryz.func134 rfl Tryz.results134 rfl (by simp[Tryz.ntmps134]) ?_;rw[Tryz.ntmps134];simp only[Qe];have zi:=ha.fin;have zj:=ha.mvs;have hd:x16 a=(Vy a,0):=by unfold x16;rw[if_pos ((Ic a).2 ha)]
 have cD:=q2k a;rw[hd]at cD;simp only[encA]at cD ⊢;have hL:=fun k:Int=>Vo a.types.toNat (by have:=ha.types;omega) [] (Aw a k none) (fun p h=>by cases h) (fun p hp=>by
  obtain⟨m,hm,rfl⟩:=zM.1 hp;exact(ha.mv m (Rv.1 hm).1).on) (V7 a k none) (Br ha (Un.2 (.inl rfl)))
 have zk:((a.types.toNat:Nat):Int)=a.types:=by have:=ha.types;omega
 simp only[zk,x1f]at hL;have zl:∀k,Vr a k=(Xa (V7 a k none)).isSome:=fun _=>rfl;have z8:=v14 a;have zm:Jc a=(Vy a && (We a.fin.length).all fun s=> !Vr a s):=rfl;rw[zm];have zn:=fun k j (h:j<a.mv.length)=>z1x a k h;have zo:=fun k j=>v1l a k j;have hz:=z1t a;repeat first|(refine r_ ?_;simp)|refine q_ ?_
 refine Qd rfl rfl (by simp) (cD) rfl ?_;rintro _ rfl;simp;repeat first|(refine r_ ?_;simp)|refine q_ ?_
 cases hsg:Vy a with
 |false=>
  repeat first|(refine r_ ?_;simp)|refine q_ ?_
  refine Qa rfl (fun _=> ?_) (fun h=>by simp at h);repeat (first|(refine r_ ?_;simp)|refine q_ ?_)
 |true=>
  repeat first|(refine r_ ?_;simp)|refine q_ ?_
  refine Qa rfl (fun h=>by simp at h) (fun _=> ?_);repeat first|(refine r_ ?_;simp)|refine q_ ?_
  refine Ql (Qb (sl':=[(1,.vptr 0 0),(24,.i a.fin.length),(25,.i (0:Nat))]) ?_ (by simp));refine Qm (P:=Tryz.prog) (F:=fun(u:Nat×List AObj)=>⟨[(1,.vptr 0 0),(24,.i a.fin.length),(25,.i u.1)],u.2⟩)
   (fun u=>u.1≤a.fin.length∧(∀i:Nat,i<u.1→(!Vr a i)=true)∧u.2[0]? =some (.vars (Qp a))) (fun u=>a.fin.length - u.1) ?_ (0,_) ⟨xA _,fun i h=>absurd h (tB _),rfl⟩
  rintro⟨k,G⟩ ⟨hk,hI,g0⟩ ih;simp only at hk hI g0 ih ⊢;repeat first|(refine r_ ?_;simp)|refine q_ ?_
  refine Qa rfl (fun zp=> ?_) (fun zq=> ?_)
  ·have zr:k<a.fin.length:=by simpa using zp
   have hw:IntKind.i64.wrap ((k:Int)+1)=k+1:=wrap_i64 _ (by omega) (by omega);have zt:=zn k;have zu:=zo k;have zv:=hL k;repeat first|(refine r_ ?_;simp[g0])|refine q_ ?_
   refine Q5 6 70 1 rfl ?_;simp;have hst:=SL.start G 70 1;refine Ql (Qb (sl':=[(1,.vptr 0 0),(5,.i k),(6,.sl G.length 1 0 (onF a k 0).length),(24,.i a.fin.length),(25,.i k),(29,.list (a.mv.map encMv)),(30,.i a.mv.length),(31,.i (0:Nat))]) ?_ (by simp[hz]));refine Qm (P:=Tryz.prog) (F:=fun(u:Nat×Nat×List AObj)=>⟨[(1,.vptr 0 0),(5,.i k),(6,.sl u.2.1 1 0 (onF a k u.1).length),(24,.i a.fin.length),(25,.i k),(29,.list (a.mv.map encMv)),(30,.i a.mv.length),(31,.i u.1)],u.2.2⟩)
    (fun u=>u.1≤a.mv.length∧SL G u.2.2 u.2.1 70 1 ((onF a k u.1).map encP)) (fun u=>a.mv.length - u.1) ?_ (0,G.length,_) ⟨xA _,by rw[hz];simpa using hst⟩
   rintro⟨j,q,E⟩ ⟨hj,g⟩ ih2;simp only at hj g ih2 ⊢;have zw:=zu j;repeat first|(refine r_ ?_;simp)|refine q_ ?_
   refine Qa rfl (fun za=> ?_) (fun zb=> ?_)
   ·have z1:j<a.mv.length:=by simpa using za
    have ze:IntKind.i64.wrap ((j:Int)+1)=j+1:=wrap_i64 _ (by omega) (by omega);have zx:=zt j z1;have z6:=fun q' G'=>ih2 (j+1,q',G');simp only[zx]at z6;have zf:(a.mv.map encMv)[j]? =some (encMv a.mv[j]):=by simp[z1]
    have zg:∀hh,(a.mv.map encMv)[j]'hh=encMv a.mv[j]:=fun hh=>by simp
    generalize a.mv[j]=m at *;generalize onF a k j=P at *
    have z7:(P.map encP).length=P.length:=by simp
    simp only[encMv]at zf zg;repeat first|(refine r_ ?_;simp[zf,zg,z1])|refine q_ ?_
    refine Qa rfl (fun h=> ?_) (fun h=> ?_)
    ·have e:m.src=k:=by simpa using h
     rw[if_pos e]at z6;repeat first|(refine r_ ?_;simp)|refine q_ ?_
     refine Qf tOk rfl rfl T87 rfl T70 rfl (by decide) (by decide) rfl rfl rfl ?_;simp[Qc g.arr,Qj g.arr,z7];refine⟨by simp[Ws,Qc g.arr,Qj g.arr,z7]<;>omega,?_⟩;repeat first|(refine r_ ?_;simp[ze])|refine q_ ?_
     refine Qb (sl':=[(1,.vptr 0 0),(5,.i k),(6,.sl (E.length+2) 1 0 (P++[m.on]).length),(24,.i a.fin.length),(25,.i k),(29,.list (a.mv.map encMv)),(30,.i a.mv.length),(31,.i (j+1:Nat))]) ?_ (by simp);have:=z6 (E.length+2) _ ⟨by omega,g.put [AObj.vars [.i m.src,.i m.dst,.list (m.on.map encL)],AObj.arr 70 1 [encP m.on]] ((P++[m.on]).map encP) rfl⟩ (by omega);simpa[encP]using this
    ·have e:m.src≠k:=by simpa using h
     rw[if_neg e,xV]at z6;repeat first|(refine r_ ?_;simp[ze])|refine q_ ?_
     refine Qb (sl':=[(1,.vptr 0 0),(5,.i k),(6,.sl q 1 0 P.length),(24,.i a.fin.length),(25,.i k),(29,.list (a.mv.map encMv)),(30,.i a.mv.length),(31,.i (j+1:Nat))]) ?_ (by simp);exact z6 q _ ⟨by omega,g.add _⟩ (by omega)
   ·have zy:j=a.mv.length:=by simp at zb;omega
    subst zy;rw[z8]at g zw ⊢;have e0:=g.kp g0;have z7:((Aw a k none).map encP).length=(Aw a k none).length:=by simp
    have zc:((Aw a k none).map encP).take (Aw a k none).length=(Aw a k none).map encP:=zI (by simp);have zh:=zl k;generalize Xa (V7 a k none)=Y at *;generalize Aw a k none=P at *
    repeat first|(refine r_ ?_;simp[e0])|refine q_ ?_
    refine R0 rfl rfl (by first|(simp[g.arr,zc,z7];done)|(simp[g.arr,zc,z7];rfl)) (zv) rfl ?_;rintro _ rfl;refine⟨by first|simp|rfl|trivial,?_⟩;simp[g.arr,zc,z7];cases Y with
    |some y=>
     have hf:(We a.fin.length).all (fun s=> !Vr a s)=false:=by rw[w0q (j:=k) (by omega) hI (.inr (by rw[zh];rfl))];simp;omega
     rw[hf];repeat first|(refine r_ ?_;simp)|refine q_ ?_
     refine Qa rfl (fun _=> ?_) (fun h=>by simp at h);repeat (first|(refine r_ ?_;simp)|refine q_ ?_)
    |none=>
     repeat first|(refine r_ ?_;simp)|refine q_ ?_
     refine Qa rfl (fun h=>by simp at h) (fun _=> ?_);repeat first|(refine r_ ?_;simp[hw])|refine q_ ?_
     refine Qb (sl':=[(1,.vptr 0 0),(24,.i a.fin.length),(25,.i (k+1:Nat))]) ?_ (by simp);refine ih (k+1,_) ⟨by omega,fun i hi=> ?_,Qc e0 _⟩ (by omega);by_cases e:i=k
     ·subst e;rw[zh];rfl
     ·exact hI i (by omega)
  ·have zd:k=a.fin.length:=by simp at zq;omega
   subst zd;have hf:(We a.fin.length).all (fun s=> !Vr a s)=true:=by rw[w0q (zK _) hI (.inl rfl)];simp
   rw[hf];repeat first|(refine r_ ?_;simp)|refine q_ ?_
attribute [local irreducible] Ev Jc
theorem J4(a b:Aut):PC Tryz.prog 69 [encA a,encA b] (fun r=>r= .i (Tp a b)):=by
 refine Qh tOk Tryz.func69 rfl Tryz.results69 rfl (by simp[Tryz.ntmps69]) ?_;rw[Tryz.ntmps69];simp only[Qe];obtain⟨R,hR⟩:∃R,Tp a b=R:=⟨_,rfl⟩
 rw[hR];rw[y0u]at hR;have cB:=w0c a b;have z6:Ev a b=0→OkA a∧OkA b:=fun h=>⟨(Ty.1 h).1,(Ty.1 h).2.1⟩
 simp only[encA]at cB ⊢;repeat first|(refine r_ ?_;simp)|refine q_ ?_
 refine Qd rfl rfl (by simp) (cB) rfl ?_;rintro _ rfl;simp;repeat first|(refine r_ ?_;simp)|refine q_ ?_
 refine Qa rfl (fun h=> ?_) (fun h=> ?_)
 ·repeat first|(refine r_ ?_;simp)|refine q_ ?_
  have h':Ev a b≠0:=by simpa using h
  rw[if_pos h']at hR;exact hR
 have h':¬Ev a b≠0:=by simpa using h
 rw[if_neg h']at hR;obtain⟨ha,hb⟩:=z6 (by simpa using h);have cF:=q0g a ha;have cG:=q0g b hb;simp only[encA]at cF cG;repeat first|(refine r_ ?_;simp)|refine q_ ?_
 refine Qd rfl rfl (by simp) (cF) rfl ?_;rintro _ rfl;simp;cases z1:Jc a with
 |true=>
  repeat first|(refine r_ ?_;simp)|refine q_ ?_
  refine Qd rfl rfl (by simp) (cG) rfl ?_;rintro _ rfl;simp;cases hfb:Jc b with
  |true=>
   repeat first|(refine r_ ?_;simp)|refine q_ ?_
   refine Qa rfl (fun h=>by simp at h) (fun _=> ?_);repeat first|(refine r_ ?_;simp)|refine q_ ?_
   rw[←hR,z1,hfb];rfl
  |false=>
   repeat first|(refine r_ ?_;simp)|refine q_ ?_
   refine Qa rfl (fun _=> ?_) (fun h=>by simp at h);repeat first|(refine r_ ?_;simp)|refine q_ ?_
   rw[←hR,z1,hfb];rfl
 |false=>
  repeat first|(refine r_ ?_;simp)|refine q_ ?_
  refine Wb rfl rfl ?_;simp;repeat first|(refine r_ ?_;simp)|refine q_ ?_
  refine Qa rfl (fun _=> ?_) (fun h=>by simp at h);repeat first|(refine r_ ?_;simp)|refine q_ ?_
  rw[←hR,if_pos (.inl z1)]
theorem X5(a:Aut)(s:Int)(hs:inD a s):PC Tryz.prog 127 [encA a,.i s] (fun r=>r= .bool (w0m a s)):=by
 refine Qh tOk Tryz.func127 rfl Tryz.results127 rfl (by simp[Tryz.ntmps127]) ?_;rw[Tryz.ntmps127];simp only[Qe];simp only[encA];unfold w0m;by_cases h1:s= -1
 ·subst h1;repeat first|(refine r_ ?_;simp)|refine q_ ?_
 ·have hr:inS a s:=hs.resolve_left h1;obtain⟨k,rfl⟩:∃k:Nat,s=k:=⟨s.toNat,(d1s hr).2.symm⟩
  have hk:k<a.fin.length:=by have:=hr.2;omega
  have z1:((k:Int)== -1)=false:=by simp
  have z6:a.fin.getD k false=a.fin[k]:=by simp[yQ,hk]
  repeat first|(refine r_ ?_;simp[z1,hk])|refine q_ ?_
end Go.Abs
