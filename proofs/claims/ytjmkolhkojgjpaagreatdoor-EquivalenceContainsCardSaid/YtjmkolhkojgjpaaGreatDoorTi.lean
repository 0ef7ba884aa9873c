/- Part Ti of the proof: an abstract machine over the model, and what the functions of the program hand back in its terms. No condition. -/
import Derived.Test.YtjmkolhkojgjpaaGreatDoorTh
import Derived.Test.YtjmkolhkojgjpaaGreatDoorTf
import Derived.Test.YtjmkolhkojgjpaaGreatDoorTc
import Derived.Test.YtjmkolhkojgjpaaGreatDoorTg
import Derived.DeepKeys4
import Derived.Test.YtjmkolhkojgjpaaGreatDoorTe
set_option linter.all false
open List renaming range_succ→vw,take_succ_eq_append_getElem→zO,getElem_mem→zH,length_map→zY,take_of_length_le→zS,range→yD,mem_map→zL,getElem?_map→zP,ext_getElem?→yW,getElem?_set_self→zG,getElem?_eq_some_iff→zA,getElem?_set_ne→zB,getElem?_eq_none→xS,getElem?_eq_getElem→zF,getElem_eq_iff→yX,getElem?_append_right→zE,drop_length→xA,getD→yP,map_nil→xP,length_filter_le→wY,append_nil→xR,take_length→yF,getElem?_append_left→zD,map_append→yU
open Nat renaming le_refl→zI,zero_le→xG,not_lt_zero→ta
open Prod renaming ext→tl
open Option renaming map_eq_some_iff→zJ
set_option maxHeartbeats 8000000
set_option linter.unusedSimpArgs false
set_option maxRecDepth 100000
namespace Go.Abs
def adQ(l:List (Int×Int))(t:Int×Int):List (Int×Int):=if t∈l then l else l++[t]
theorem k1m{l:List (Int×Int)}{t:Int×Int}(h:t∈l):adQ l t=l:=if_pos h
theorem w19{l:List (Int×Int)}{t:Int×Int}(h:t∉l):adQ l t=l++[t]:=if_neg h
theorem x1j{l:List (Int×Int)}{t s:Int×Int}:s∈adQ l t↔s∈l∨s=t:=by
 unfold adQ;by_cases h:t∈l
 ·rw[if_pos h];exact⟨.inl,fun k=>k.elim id fun e=>e▸h⟩
 ·rw[if_neg h,List.mem_append,List.mem_singleton]
theorem Lx{s:Int×Int}:∀(ys l:List (Int×Int)),s∈ys.foldl adQ l↔s∈l∨s∈ys
 |[],l=>by simp
 |y::ys,l=>by
  rw[List.foldl_cons,Lx ys,x1j,List.mem_cons];constructor
  ·rintro((h|h)|h)
   ·exact .inl h
   ·exact .inr (.inl h)
   ·exact .inr (.inr h)
  ·rintro(h|h|h)
   ·exact .inl (.inl h)
   ·exact .inl (.inr h)
   ·exact .inr h
def c1o(a b:Aut)(s:Int×Int):List (Int×Int):=(Rt a b).map fun x=>R8 a b s x
def g1j(a b:Aut)(s:Int×Int):List (Int×Int):=(c1o a b s).foldl adQ []
def c10(a b:Aut):Nat→Nat→List (Int×Int)→List (Int×Int)
 |0,_,l=>l
 |f+1,n,l=>match l[n]? with
  |none=>l
  |some s=>c10 a b f (n+1) ((c1o a b s).foldl adQ l)
end Go.Abs
namespace Go.Abs
open Go Go.Proofs Go.Maps Go.RowKit
attribute [simp] T66 T41
def pqr(s:Int×Int):AV:= .agg [.i s.1,.i s.2]
abbrev LQp (l:List (Int×Int)):AV:= .list (l.map pqr)
theorem j1d(a b c d:Int):eqA T 9 66 (.agg [.int .i64 a,.int .i64 b]) (.agg [.int .i64 c,.int .i64 d])=some (a==c && b==d):=by simp[eqA,Ij,Ab,TI.agg,vw]
end Go.Abs
namespace Go.Abs
open Go Go.Proofs Go.Maps Go.RowKit
attribute [local irreducible] Rt toL
end Go.Abs
namespace Go.Abs
open Go Go.Proofs Go.Maps Go.RowKit
structure QInv (a b:Aut) (l:List (Int×Int)):Prop where
 nd:l.Nodup
 rg:∀s∈l,inD a s.1∧inD b s.2
theorem v1g(l:List (Int×Int)):(R6 l).length=l.length:=(List.mergeSort_perm l pLe).length_eq
attribute [local irreducible] Rt toL g1j c10 R6
end Go.Abs
namespace Go.Abs
open Go Go.Proofs Go.Maps Go.RowKit
attribute [simp] T43
theorem f0f(a b:Aut):PC Tryz.prog 40 [encA a,encA b] (fun r=>r= .i (Wv a b)):=by
 refine Qh tOk Tryz.func40 rfl Tryz.results40 rfl (by simp[Tryz.ntmps40]) ?_;rw[Tryz.ntmps40];simp only[Qe];have cA:=Jd a;have cB:=Jd b;simp only[encA]at cA cB ⊢;obtain⟨R,hR⟩:∃R,Wv a b=R:=⟨_,rfl⟩
 rw[hR];unfold Wv at hR;repeat first|(refine r_ ?_;simp)|refine q_ ?_
 refine Qc rfl rfl (by simp) (cA) rfl ?_;rintro _ rfl;simp;repeat first|(refine r_ ?_;simp)|refine q_ ?_
 refine Qa rfl (fun h=> ?_) (fun h=> ?_)
 ·rw[if_pos (by simpa using h)]at hR;repeat first|(refine r_ ?_;simp)|refine q_ ?_
  exact hR
 rw[if_neg (by simpa using h)]at hR;repeat first|(refine r_ ?_;simp)|refine q_ ?_
 refine Qc rfl rfl (by simp) (cB) rfl ?_;rintro _ rfl;simp;repeat first|(refine r_ ?_;simp)|refine q_ ?_
 refine Qa rfl (fun h2=> ?_) (fun h2=> ?_)
 ·rw[if_pos (by simpa using h2)]at hR;repeat first|(refine r_ ?_;simp)|refine q_ ?_
  exact hR
 rw[if_neg (by simpa using h2)]at hR;repeat first|(refine r_ ?_;simp)|refine q_ ?_
 refine Qa rfl (fun h3=> ?_) (fun h3=> ?_)
 ·rw[if_pos (by simpa using h3)]at hR;subst hR;repeat first|(refine r_ ?_;simp)|refine q_ ?_
 ·rw[if_neg (by simpa using h3)]at hR;subst hR;repeat first|(refine r_ ?_;simp)|refine q_ ?_
attribute [local irreducible] Wv Ux
def w2y(a b:Aut)(l:List (Int×Int))(s:Int×Int):Bool:=Xx a b s && (g1j a b s).all fun t=>decide (t∈l)
theorem Bl{α:Type}{p:α→Bool}{l:List α}{j:Nat}(h:j<l.length)(h1:(l.take j).all p=true):(l.take (j+1)).all p=p l[j]:=by rw[zO h,List.all_append,h1];simp
theorem all_false{α:Type}{p:α→Bool}{l:List α}{j:Nat}(h:j<l.length)(h1:p l[j]=false):l.all p=false:=by rw[List.all_eq_false];exact⟨_,zH h,by rw[h1];simp⟩
attribute [local irreducible] g1j Xx
def B0(x:EqC):AV:= .agg [.i x.verdict,LQp x.pairs,LSy x.word]
def d0s(a b:Aut)(x:EqC):Int:=if 2048<x.pairs.length∨4096<x.word.length then 5 else if x.pairs.all (fun s=>decide (inS a s.1∧inS b s.2))=false then 6 else Cf a.types x.word
theorem g0p(n:Nat)(z:Int):(z<0∧¬(0≤z∧z<(n:Int)))∨(¬z<0∧(n:Int)≤z∧¬(0≤z∧z<(n:Int)))∨(¬z<0∧¬(n:Int)≤z∧(0≤z∧z<(n:Int))):=by omega
attribute [local irreducible] Fc
end Go.Abs
namespace Go.Abs
open Go Go.Proofs
def c1t(n:Nat)(l:List Int):Prop:=(Wo n).filter (fun z=>decide (z∈l))=l
def j19(n:Nat)(l:List Int):List AV:=j10 n fun z=>decide (z∈l)
def q2n(n:Nat)(l m:List Int):Bool:=decide (∀i:Nat,i<n→decide ((i:Int)∈l)=decide ((i:Int)∈m))
abbrev SQ:=SS×List Sy
structure SInv (na nb:Nat) (P Q:List (List Int)) (L:List SQ):Prop where
 nd:(L.map (·.1)).Nodup
 mem:∀e∈L,e.1∈Gt P Q
 can:∀e∈L,c1t na e.1.1∧c1t nb e.1.2
structure SPQ (a b:Aut) (P Q:List (List Int)):Prop where
 lim:(P.length+1) * (Q.length+1)≤66049
 fst:(([0]:List Int),([0]:List Int))∈Gt P Q
 step:∀s∈Gt P Q,∀x,Wj a x→Zd a b s x∈Gt P Q
end Go.Abs
namespace Go.Abs
open Go Go.Proofs Go.Maps Go.RowKit
attribute [simp] q26 q23
def q2h(na nb:Nat)(e:SQ):AV:= .agg [.list (j19 na e.1.1),.list (j19 nb e.1.2),.list (e.2.map encSy)]
attribute [local irreducible] j19
attribute [local irreducible] Wv Ef
end Go.Abs
namespace Go.Abs
open Go Go.Proofs Go.Maps Go.RowKit
def WL(L:List SQ):Prop:=∀(i:Nat) (e:SQ),L[i]? =some e→e.2.length≤i
def wnE(either:Bool):Bool→Bool→Bool:=if either then neB else Cg
attribute [local irreducible] Rt Qu Gu Ed Zq Iy j19 wnE q1k
end Go.Abs
namespace Go.Abs
open Go Go.Proofs Go.Maps Go.RowKit
def x10(lo hi:Int):Prd:=[[⟨lo,hi⟩]]
def exA:Aut:=⟨1,[false,false,true],[⟨0,0,x10 (-1099511627776) 1099511627776⟩,⟨0,1,x10 5 1099511627776⟩,⟨1,2,x10 (-1099511627776) 7⟩]⟩
def w2k(l:List Int):List Sy:=l.map fun n=>⟨0,n⟩
def c1v(a:Aut)(w:List Sy):Bool:=Ci a && decide (w.length≤12) && (Zf a w).2==0
end Go.Abs
namespace Go.Abs
open Go Go.Proofs Go.Maps Go.RowKit
end Go.Abs
namespace Go.Abs
open Go Go.Proofs Go.Maps Go.RowKit
def q2l(a b:Aut):EqC×Int:=if R0 a b≠0 then(w12,R0 a b)else match (Sa a b 0 0).1 with
 |some w=>(⟨2,[],w⟩,0)
 |none=>(⟨1,R6 (X2 a b),[]⟩,0)
def q28(a b:Aut):(List Sy×Bool)×Int:=if W6 a b≠0 then(([],false),W6 a b)else match (q1k a b Cg).1 with
 |some w=>((w,false),0)
 |none=>(([],true),0)
def q2i(a b:Aut):(List Sy×Bool)×Int:=if W6 a b≠0 then(([],false),W6 a b)else match (q1k a b neB).1 with
 |some w=>((w,true),0)
 |none=>(([],false),0)
def c1r(r:EqC×Int):AV:= .tup [B0 r.1,.i r.2]
def c1q(r:(List Sy×Bool)×Int):AV:= .tup [LSy r.1.1,.bool r.1.2,.i r.2]
attribute [local irreducible] R0 Sa R6 X2 Wv W6 q1k Ef
end Go.Abs
namespace Go.Abs
open Go Go.Proofs Go.Maps Go.RowKit
theorem k18(a b a' b':Int):eqA T 9 52 (.agg [.int .i64 a,.int .i64 b]) (.agg [.int .i64 a',.int .i64 b'])=some (a==a' && b==b'):=by simp[eqA,Yo,Ab,TI.agg]
theorem x12{a b:List Sy}{j:Nat}(h1:j<a.length)(h2:j<b.length)(h:a.take j=b.take j)(e:a[j]=b[j]):a.take (j+1)=b.take (j+1):=by rw[zO h1,zO h2,h,e]
theorem Hc(a b:List Sy):PC Tryz.prog 26 [LSy a,LSy b] (fun r=>r= .bool (decide (a=b))):=by
 refine Qh tOk Tryz.func26 rfl Tryz.results26 rfl (by simp[Tryz.ntmps26]) ?_;rw[Tryz.ntmps26];simp only[Qe];refine Tt 0 rfl (fun hlen=> ?_);rw[zY]at hlen;repeat first|(refine r_ ?_;simp)|refine q_ ?_
 refine Qa rfl (fun h=> ?_) (fun h1=> ?_)
 ·repeat first|(refine r_ ?_;simp)|refine q_ ?_
  rintro rfl;simp at h
 have hl:a.length=b.length:=by simp at h1;omega
 repeat first|(refine r_ ?_;simp)|refine q_ ?_
 refine Qv a.length (fun j=>a.take j=b.take j) (fun j=>[(0,LSy a),(1,LSy b),(12,.i a.length),(13,.i j)]) (fun _=>[]) rfl (by simp) (by simp) (by simp) (by simp) (by simp) ?_;intro j hj hI ih;repeat first|(refine r_ ?_;simp)|refine q_ ?_
 refine Qa rfl (fun z8=> ?_) (fun za=> ?_)
 ·have z1:j<a.length:=by simpa using z8
  have z6:j<b.length:=by omega
  repeat first|(refine r_ ?_;simp)|refine q_ ?_
  refine Qw tOk mixed [] (.val 0 (.val 1 (.val 2 (.val 3 (.val 4 (.val 5 (.val 6 (.val 7 (.val 8 (.done)))))))))) rfl (by kernel_rfl) ?_;simp[z1,z6,k18];refine Qa rfl (fun h=> ?_) (fun h=> ?_)
  ·repeat first|(refine r_ ?_;simp)|refine q_ ?_
   rintro rfl;simp at h
  ·repeat first|(refine r_ ?_;simp)|refine q_ ?_
   have he:a[j]=b[j]:=by
    have h2:a[j].ty=b[j].ty∧a[j].num=b[j].num:=by simpa using h
    cases ha:a[j];cases hb:b[j];rw[ha,hb]at h2;simp only at h2;rw[h2.1,h2.2]
   refine Qs _ (ih z1 (x12 z1 z6 hI he)) rfl (by simp) ?_ (by simp) (by simp);simp;exact wrap_i64 _ (by omega) (by omega)
 ·have z7:j=a.length:=by simp at za;omega
  subst z7;repeat first|(refine r_ ?_;simp)|refine q_ ?_
  rw[zS (zI _),zS (by omega)]at hI;exact hI
end Go.Abs
namespace Go.Abs
open Go Go.Proofs Go.Maps Go.RowKit
theorem K1(lo hi:Int):PC Tryz.prog 145 [.i lo,.i hi] (fun r=>r=encP [[⟨lo,hi⟩]]):=by refine Qh tOk Tryz.func145 rfl Tryz.results145 rfl (by simp[Tryz.ntmps145]) ?_;rw[Tryz.ntmps145];simp only[Qe];refine Eh (E3 tOk rfl ?_);simp;refine Eh (E3 tOk rfl ?_);simp;refine F0 1 (e:=144) (c:=2) (xs:=[encIv ⟨lo,hi⟩]) rfl 2 (o0:= .va 145 1 [.sl 1 2 0 1]) rfl (by decide) rfl ?_;simp[AObj.fz,AV.fz];refine Pe 2 rfl (by simp[AV.cells,AV.pure]) ?_;simp;refine Ea 2 (e:=145) (c:=1) (xs:=[encL [⟨lo,hi⟩]]) rfl 0 rfl ?_;simp;repeat first|(refine r_ ?_;simp)|refine q_ ?_
theorem C2:PC Tryz.prog 79 [] (fun r=>r= .tup [encA exQ,encA exR]):=by
 refine Qh tOk Tryz.func79 rfl Tryz.results79 rfl (by simp[Tryz.ntmps79]) ?_;rw[Tryz.ntmps79];simp only[Qe];have z1:yD 2=[0,1]:=rfl;have z6:yD 4=[0,1,2,3]:=rfl;repeat first|(refine r_ ?_;simp[z1,z6])|refine q_ ?_
 refine Qc rfl rfl (by simp) (K1 (-1099511627776) 1099511627776) rfl ?_;rintro _ rfl;simp[z1,z6];refine Qc rfl rfl (by simp) (K1 (-1099511627776) 4) rfl ?_;rintro _ rfl;simp[z1,z6];refine Qc rfl rfl (by simp) (K1 5 1099511627776) rfl ?_;rintro _ rfl;simp[z1,z6];repeat first|(refine r_ ?_;simp[z1,z6])|refine q_ ?_
 refine Wa (sl':=[(0,.vptr 0 0),(1,.vptr 1 0),(5,.vptr 7 0),(6,.vptr 10 0)]) ?_ (by simp);refine Ea 5 (e:=4) (c:=1) (xs:=[.bool false,.bool true]) rfl 7 rfl ?_;simp;refine Ea 8 (e:=4) (c:=1) (xs:=[.bool false,.bool true]) rfl 10 rfl ?_;simp;refine Ea 6 (e:=73) (c:=3) (xs:=exQ.mv.map encMv) rfl 7 rfl ?_;have z7:exQ.mv.length=2:=rfl;have z8:exR.mv.length=4:=rfl;simp[z7];refine Ea 9 (e:=73) (c:=3) (xs:=exR.mv.map encMv) rfl 10 rfl ?_;simp[z8];rw[zS (by simp[z7]),zS (by simp[z8])];refine Fy tOk mixed [2,3] (.val 0 (.two 1 (.one 2 (.one 3 (.done))) 2 (.val 1 (.one 3 (.done))))) rfl (by kernel_rfl) ?_;simp;repeat first|(refine r_ ?_;simp)|refine q_ ?_
 exact⟨⟨rfl,rfl⟩,rfl,rfl⟩
end Go.Abs
namespace Go.Abs
open Go Go.Proofs Go.Maps Go.RowKit
attribute [simp] y1a c1i c1x
theorem B5:(Tryz.prog).underlying 66=some (.array 2 3):=by kernel_rfl
theorem y15:(Tryz.prog).underlying 3=some (.int .i64):=by kernel_rfl
theorem Nz:(Tryz.prog).cellsOf 66=2:=by kernel_rfl
theorem k0o:(Tryz.prog).cellsOf 3=1:=by kernel_rfl
theorem x1x:(Tryz.prog).keyType 66=true:=by kernel_rfl
theorem x15:laidOutB Tryz.prog=true:=by kernel_rfl
theorem x1q:(Tryz.prog).keyTypeAt 3 66=true:=by kernel_rfl
theorem q11:66<(Tryz.prog).types.size:=of_decide_eq_true (by kernel_rfl)
theorem D9:Keyed Tryz.prog 66:=Keyed.of_law (deep_law_laid x15 (m:=3) (by decide) q11 x1q (by rw[B5]))
def okQ(s:Int×Int):Prop:=(-1≤s.1∧s.1≤1000000)∧(-1≤s.2∧s.2≤1000000)
theorem z1t{s t:Int×Int}(h:pqr s=pqr t):s=t:=by unfold pqr at h;simp at h;exact tl h.1 h.2
theorem v1a{z:Int}(h: -1≤z∧z≤1000000):(Lit.int .i64 z).wf=true:=by
 have h1:IntKind.i64.min= -9223372036854775808:=by decide
 have h2:IntKind.i64.max=9223372036854775807:=by decide
 simp only[Lit.wf,h1,h2,Bool.and_eq_true,decide_eq_true_eq];omega
theorem x02(d:Nat){z:Int}(h: -1≤z∧z≤1000000):(Tryz.prog).keyLits (d+1) 3 [.int .i64 z]=some [.int .i64 z]:=by unfold Program.keyLits;rw[y15];simp[v1a h]
theorem u13(d:Nat){s:Int×Int}(h:okQ s):(Tryz.prog).keyLits (d+2) 66 [.int .i64 s.1,.int .i64 s.2]=some [.int .i64 s.1,.int .i64 s.2]:=by unfold Program.keyLits;rw[B5];simp only[Nz,k0o,List.length_cons,List.length_nil,if_true];have h1:=x02 d h.1;have h2:=x02 d h.2;simp[vw,h1,h2]
theorem Il{s:Int×Int}(h:okQ s):isKey Tryz.prog 66 (pqr s):=by
 refine⟨.agg #[.int .i64 s.1,.int .i64 s.2],.string (keyBytes [.int .i64 s.1,.int .i64 s.2]),rfl,?_⟩;obtain⟨d,hd⟩:∃d,(Tryz.prog).types.size+1=d+2:=⟨(Tryz.prog).types.size - 1,by have:=q11;omega⟩
 unfold keyOf;rw[B5];simp only;have hf:Value.formed Tryz.prog 66 (.agg #[.int .i64 s.1,.int .i64 s.2])=true:=by unfold Value.formed;rw[B5,Nz];rfl
 rw[x1x,hf,hd];have:(Value.agg #[.int .i64 s.1,.int .i64 s.2]).cells.toList=[.int .i64 s.1,.int .i64 s.2]:=rfl;rw[this,u13 d h];rfl
def kvQ(l:List (Int×Int)):List (AV×AV):=l.map fun s=>(pqr s,.bool true)
def stQ(l:List (Int×Int)):AObj:= .mp (kvQ l)
theorem J2{l:List (Int×Int)}(h:∀s∈l,okQ s):∀p∈kvQ l,isKey Tryz.prog 66 p.1:=fun p hp=>by obtain⟨e,he,rfl⟩:=zL.1 hp;exact Il (h e he)
theorem Kd{l:List (Int×Int)}{j:Nat}{p:AV×AV}{s:Int×Int}(hp:(kvQ l)[j]? =some p)(he:p.1=pqr s):s∈l∧p.2= .bool true:=by unfold kvQ at hp;rw[zP]at hp;obtain⟨m,hm,rfl⟩:=zJ.1 hp;have z1:m=s:=z1t he;exact⟨by rw[←z1];exact List.mem_of_getElem? hm,rfl⟩
section
variable {nt k:Nat} {S:AS} {ops:Array Oper} {o:Oper} {R:AS→Prop}
theorem C4 {wr:Bool} (hw:Qy ops S o=some true) (hd:Ws nt o=true) {x ix:Operand} (ho:o.op= .lookup 174 x ix false) {id:Nat} (hx:rho S.sl x=some (.mref id)) {s:Int×Int} (z1:rho S.sl ix=some (.agg [.i s.1,.i s.2]))
  {l:List (Int×Int)} (z6:S.hp[id]? =some (stQ l)) (hl:∀m∈l,okQ m) (hn:okQ s) (hR:R (S.putD o.dst (.bool (decide (s∈l))))):Wh Tryz.prog nt k wr ops o S R:=by
 refine Av tOk hw hd ho y1a rfl T4 D9 hx z1 z6 (Il hn) (J2 hl) (z:= .bool false) rfl (fun j p hp he=> ?_) (fun z7=> ?_)
 ·obtain⟨h1,h2⟩:=Kd hp he;rw[decide_eq_true h1]at hR;rw[h2];exact hR
 ·rw[decide_eq_false (fun h=>z7 (pqr s,.bool true) (zL.2 ⟨s,h,rfl⟩) rfl)]at hR;exact hR
theorem Ay {wr:Bool} (hw:Qy ops S o=some true) (hd:Ws nt o=true) {x ix:Operand} (ho:o.op= .lookup 174 x ix false) {id:Nat} (hx:rho S.sl x=some (.mref id)) {s:Int×Int} (z1:rho S.sl ix=some (.agg [.i s.1,.i s.2]))
  {l:List (Int×Int)} (z6:S.hp[id]? =some (.fm (kvQ l))) (hl:∀m∈l,okQ m) (hn:okQ s) (hR:R (S.putD o.dst (.bool (decide (s∈l))))):Wh Tryz.prog nt k wr ops o S R:=by
 refine Ky tOk hw hd ho y1a rfl T4 D9 hx z1 z6 (Il hn) (J2 hl) (z:= .bool false) rfl (fun j p hp he=> ?_) (fun z7=> ?_)
 ·obtain⟨h1,h2⟩:=Kd hp he;rw[decide_eq_true h1]at hR;rw[h2];exact hR
 ·rw[decide_eq_false (fun h=>z7 (pqr s,.bool true) (zL.2 ⟨s,h,rfl⟩) rfl)]at hR;exact hR
theorem H7 (hw:Qy ops S o=some true) (hd:Ws nt o=true) {x ix y:Operand} (ho:o.op= .mapUpdate 174 x ix y) {id:Nat} (hx:rho S.sl x=some (.mref id)) {s:Int×Int} (z1:rho S.sl ix=some (.agg [.i s.1,.i s.2])) (hy:rho S.sl y=some (.bool true))
  {l:List (Int×Int)} (z6:S.hp[id]? =some (stQ l)) (hl:∀m∈l,okQ m) (hn:okQ s) (z7:s∉l) (hR:R (({ S with hp:=S.hp.set id (stQ (l++[s])) }:AS).putD o.dst (.tup []))):Wh Tryz.prog nt k true ops o S R:=by
 refine Rc tOk hw hd ho y1a rfl D9 hx z1 hy (by simp[AV.pure]) z6 (Il hn) (J2 hl) (fun j p hp he=> ?_) (fun z8=> ?_)
 ·exact absurd (Kd hp he).1 z7
 ·have:kvQ l++[(pqr s,.bool true)]=kvQ (l++[s]):=by simp[kvQ]
  unfold stQ at hR;rw[←this]at hR;exact hR
theorem Vl (hw:Qy ops S o=some true) (hd:Ws nt o=true) {x ix y:Operand} (ho:o.op= .mapUpdate 174 x ix y) {id:Nat} (hx:rho S.sl x=some (.mref id)) {s:Int×Int} (z1:rho S.sl ix=some (.agg [.i s.1,.i s.2])) (hy:rho S.sl y=some (.bool true))
  {l:List (Int×Int)} (z6:S.hp[id]? =some (stQ l)) (hl:∀m∈l,okQ m) (hn:okQ s) (hR:R (({ S with hp:=S.hp.set id (stQ (adQ l s)) }:AS).putD o.dst (.tup []))):Wh Tryz.prog nt k true ops o S R:=by
 by_cases hm:s∈l
 ·rw[k1m hm]at hR;refine Rc tOk hw hd ho y1a rfl D9 hx z1 hy (by simp[AV.pure]) z6 (Il hn) (J2 hl) (fun j p hp he=> ?_) (fun z7=> ?_)
  ·obtain⟨h1,h2⟩:=Kd hp he;have:(kvQ l).set j (pqr s,.bool true)=kvQ l:=by
    refine yW fun i=> ?_;by_cases hi:i=j
    ·subst hi;rw[zG (zA.1 hp).1,hp]
     congr 1
     exact tl he.symm h2.symm
    ·rw[zB (Ne.symm hi)]
   unfold stQ at hR;rw[←this]at hR;exact hR
  ·exact absurd rfl (z7 (pqr s,.bool true) (zL.2 ⟨s,hm,rfl⟩))
 ·rw[w19 hm]at hR;exact H7 hw hd ho hx z1 hy z6 hl hn hm hR
theorem q0y (hw:Qy ops S o=some true) (hd:Ws nt o=true) {x ix y:Operand} (ho:o.op= .insert 174 x ix y) {id:Nat} (hx:rho S.sl x=some (.mref id)) {s:Int×Int} (z1:rho S.sl ix=some (.agg [.i s.1,.i s.2])) (hy:rho S.sl y=some (.bool true))
  (z6:S.hp[id]? =some (.mp [])) (hn:okQ s) (hR:R (({ S with hp:=S.hp.set id (stQ [s]) }:AS).putD o.dst (.tup []))):Wh Tryz.prog nt k true ops o S R:=by
 refine A0 tOk hw hd ho y1a rfl D9 hx z1 hy (by simp[AV.pure]) z6 (Il hn) (fun p hp=>by cases hp) (fun j p hp he=>by cases hp) (fun z7=> ?_);exact hR
end
def g0z(xs ys:List Sy)(i:Nat):Prop:=ys.length=xs.length∧∀p,p<xs.length→ys[p]? =if p<i∨xs.length - i≤p then xs[xs.length - 1 - p]? else xs[p]?
theorem g0z.done{xs ys:List Sy}{i:Nat}(h:g0z xs ys i)(hi:xs.length≤2 * i+1):ys=xs.reverse:=by
 refine yW fun p=> ?_;by_cases hp:p<xs.length
 ·rw[h.2 p hp,List.getElem?_reverse hp];split
  ·rfl
  ·rename_i hn
   congr 1;omega
 ·rw[xS (by rw[h.1];omega),xS (by simp;omega)]
theorem g0z.start(xs:List Sy):g0z xs xs 0:=⟨rfl,fun p hp=>by rw[if_neg (by omega)]⟩
theorem g0z.step{xs ys:List Sy}{i:Nat}(h:g0z xs ys i)(hi:2 * i+1<xs.length){x y:Sy}(hx:ys[i]? =some x)(hy:ys[xs.length - 1 - i]? =some y):g0z xs ((ys.set i y).set (xs.length - 1 - i) x) (i+1):=by
 refine⟨by simp[h.1],fun p hp=> ?_⟩;have h1:=h.2 i (by omega);rw[if_neg (by omega),hx]at h1;have h2:=h.2 (xs.length - 1 - i) (by omega);rw[if_neg (by omega),hy]at h2;by_cases e1:p=xs.length - 1 - i
 ·subst e1;rw[zG (by simp[h.1];omega),if_pos (by omega),show xs.length - 1 - (xs.length - 1 - i)=i by omega];exact h1
 ·rw[zB (Ne.symm e1)];by_cases e2:p=i
  ·subst e2;rw[zG (by rw[h.1];omega),if_pos (by omega)];exact h2
  ·rw[zB (Ne.symm e2),h.2 p hp];by_cases e3:p<i∨xs.length - i≤p
   ·rw[if_pos e3,if_pos (by omega)]
   ·rw[if_neg e3,if_neg (by omega)]
theorem Z8(H:List AObj)(p:Nat)(xs:List Sy)(hp:H[p]? =some (.arr 52 2 (xs.map encSy)))(hl:xs.length≤1000000):FC Tryz.prog 189 [.sl p 2 0 xs.length] H (fun r H'=>r= .tup []∧H'=H.set p (.arr 52 2 (xs.reverse.map encSy))):=by
 refine W9 tOk Tryz.func189 rfl Tryz.results189 rfl (by simp[Tryz.ntmps189]) ?_;rw[Tryz.ntmps189];simp only[Qe];have zc:=Qg hp;have ze:IntKind.i64.wrap ((xs.length:Int) - 1)=(xs.length:Int) - 1:=wrap_i64 _ (by omega) (by omega);have z6:H.set p (.arr 52 2 (xs.map encSy))=H:=by
  refine yW fun i=> ?_;by_cases e:i=p
  ·subst e;rw[zG zc,hp]
  ·rw[zB (Ne.symm e)]
 repeat first|(refine r_ ?_;simp[ze])|refine q_ ?_
 refine Ql (Qb (sl':=[(0,.sl p 2 0 xs.length),(2,.i (0:Nat)),(3,.i ((xs.length:Int) - 1))]) ?_ (by simp));refine Qn (P:=Tryz.prog) (F:=fun(u:Nat×Int×List Sy×List AObj)=>⟨[(0,.sl p 2 0 xs.length),(2,.i u.1),(3,.i u.2.1)],u.2.2.2⟩)
  (fun u=>u.1≤xs.length∧u.2.1=(xs.length:Int) - 1 - u.1∧g0z xs u.2.2.1 u.1∧u.2.2.2=H.set p (.arr 52 2 (u.2.2.1.map encSy))) (fun u=>xs.length - u.1) ?_ (0,(xs.length:Int) - 1,xs,H) ⟨xG _,by simp,g0z.start xs,z6.symm⟩
 rintro⟨i,m,ys,G⟩ ⟨hi,hm,hr,hG⟩ ih;simp only at hi hm hr hG ih ⊢;repeat first|(refine r_ ?_;simp)|refine q_ ?_
 refine Qa rfl (fun zf=> ?_) (fun zg=> ?_)
 ·have zh:(i:Int)<m:=by simpa using zf
  obtain⟨k,rfl⟩:∃k:Nat,m=k:=⟨m.toNat,by omega⟩
  have hk:k=xs.length - 1 - i:=by omega
  have zi:i<k:=by omega
  have zj:k<xs.length:=by omega
  have z7:i<xs.length:=by omega
  have zk:IntKind.i64.wrap ((i:Int)+1)=i+1:=wrap_i64 _ (by omega) (by omega);have zl:IntKind.i64.wrap ((k:Int) - 1)=(k:Int) - 1:=wrap_i64 _ (by omega) (by omega);have zr:=hr.1;obtain⟨x,hx⟩:∃x,ys[i]? =some x:=⟨_,zF (by omega)⟩
  obtain⟨y,hy⟩:∃y,ys[k]? =some y:=⟨_,zF (by omega)⟩
  have hst:=hr.step (by omega) hx (by rw[←hk];exact hy);rw[←hk]at hst;have hg:G[p]? =some (.arr 52 2 (ys.map encSy)):=by rw[hG,zG zc]
  have zd:(ys.map encSy)[i]? =some (.agg [.i x.ty,.i x.num]):=by rw[zP,hx];rfl
  have z8:(ys.map encSy)[k]? =some (.agg [.i y.ty,.i y.num]):=by rw[zP,hy];rfl
  have zm:∀hh,(ys.map encSy)[i]'hh= .agg [.i x.ty,.i x.num]:=fun hh=>(yX hh).2 zd;have zn:∀hh,(ys.map encSy)[k]'hh= .agg [.i y.ty,.i y.num]:=fun hh=>(yX hh).2 z8;have zo:i<ys.length:=by omega
  have za:k<ys.length:=by omega
  have zp:∀z,(G.set p z)[p]? =some z:=fun z=>Qk hg z;have z1:∀z,((ys.map encSy).set i z)[k]? =some (.agg [.i y.ty,.i y.num]):=fun z=>by rw[zB (by omega)];exact z8
  have zb:∀z hh,((ys.map encSy).set i z)[k]'hh= .agg [.i y.ty,.i y.num]:=fun z hh=>(yX hh).2 (z1 z);repeat first|(refine r_ ?_;simp)|refine q_ ?_
  refine Qw tOk mixed [13,15] (.val 0 (.val 1 (.val 2 (.val 3 (.val 4 (.val 5 (.val 6 (.val 7 (.val 8 (.val 9 (.val 10 (.val 11 (.val 12 (.one 13 (.val 14 (.one 15 (.done))))))))))))))))) rfl (by kernel_rfl) ?_;simp[hg,zd,z8,zm,zn,zo,za,zp,z1,zi,zj,z7,zb];repeat first|(refine r_ ?_;simp[zk,zl])|refine q_ ?_
  refine Qb (sl':=[(0,.sl p 2 0 xs.length),(2,.i (i+1:Nat)),(3,.i ((k:Int) - 1))]) ?_ (by simp);exact ih (i+1,(k:Int) - 1,(ys.set i y).set k x,_) ⟨by simp only;omega,by simp only;omega,hst,by rw[hG,List.set_set];simp[List.map_set,encSy]⟩ (by simp only;omega)
 ·have zq:m≤(i:Int):=by simpa using zg
  have hd:=hr.done (by omega);subst hd;repeat first|(refine r_ ?_;simp)|refine q_ ?_
  rw[hG,List.map_reverse]
def Aa(v:Vst):AV:= .agg [.i v.s.1,.i v.s.2,.i v.fr,.i v.on.ty,.i v.on.num,.bool v.fst]
theorem g01(V:List Vst)(L:List ((Int×Int)×List Sy))(hV:VOk V L)(i:Nat)(e:(Int×Int)×List Sy)(he:L[i]? =some e)(hl:V.length≤1000000):PC Tryz.prog 128 [.list (V.map Aa),.i i] (fun r=>r=LSy e.2):=by
 refine Qh tOk Tryz.func128 rfl Tryz.results128 rfl (by simp[Tryz.ntmps128]) ?_;rw[Tryz.ntmps128];simp only[Qe];have ze:i<L.length:=(zA.1 he).1;have zf:=hV.len;repeat first|(refine r_ ?_;simp)|refine q_ ?_
 refine Wm 5 52 2 rfl ?_;simp;have hst:=SL.start [] 52 2;refine Ql (Qb (sl':=[(0,.list (V.map Aa)),(1,.i i),(5,.sl 0 2 0 ([]:List Sy).length)]) ?_ (by simp));refine Qn (P:=Tryz.prog) (F:=fun(u:Nat×Nat×List Sy×List AObj)=>⟨[(0,.list (V.map Aa)),(1,.i u.1),(5,.sl u.2.1 2 0 u.2.2.1.length)],u.2.2.2⟩)
  (fun u=>(∃d,L[u.1]? =some d∧e.2=d.2++u.2.2.1.reverse)∧u.2.2.1.length+u.1≤i∧u.2.2.2[u.2.1]? =some (.arr 52 2 (u.2.2.1.map encSy))) (fun u=>u.1) ?_ (i,0,[],_) ⟨⟨e,he,by simp⟩,by simp,by simp⟩
 rintro⟨k,q,out,G⟩ ⟨⟨d,hd,z1⟩,zc,gq⟩ ih;simp only at hd z1 zc gq ih ⊢;have z7:k<V.length:=by have:=(zA.1 hd).1;omega
 obtain⟨v,hv⟩:∃v,V[k]? =some v:=⟨_,zF z7⟩
 have za:=hV.way k v d hv hd;have z6:(V.map Aa)[k]? =some (Aa v):=by rw[zP,hv];rfl
 have z8:∀hh,(V.map Aa)[k]'hh=Aa v:=fun hh=>(yX hh).2 z6;simp only[Aa]at z6 z8;repeat first|(refine r_ ?_;simp[z6,z8,z7])|refine q_ ?_
 rcases za with⟨h1,h2⟩|⟨h1,h2,d',h3,h4⟩
 ·rw[h2,List.nil_append]at z1;rw[h1];refine Qa rfl (fun h=>by simp at h) (fun _=> ?_);repeat first|(refine r_ ?_;simp)|refine q_ ?_
  refine Q9 rfl rfl (Z8 G q out gq (by omega)) rfl ?_;rintro _ _ ⟨rfl,rfl⟩;simp;have zd:∀z,(G.set q z)[q]? =some z:=fun z=>Qk gq z;have zg:out.length=e.2.length:=by rw[z1];simp
  rw[z1];repeat first|(refine r_ ?_;simp[zd])|refine q_ ?_
  rw[zS (by simp)]
 ·rw[h1];refine Qa rfl (fun _=> ?_) (fun h=>by simp at h);have zb:(out.map encSy).length=out.length:=by simp
  repeat first|(refine r_ ?_;simp[z6,z8,z7])|refine q_ ?_
  refine Qm tOk rfl rfl T26 rfl T52 rfl (by decide) (by decide) rfl rfl rfl ?_;simp[Qd gq,Qr gq,zb];refine⟨by simp[Rl,Qd gq,Qr gq,zb]<;>omega,?_⟩;repeat first|(refine r_ ?_;simp[z6,z8,z7])|refine q_ ?_
  refine Qb (sl':=[(0,.list (V.map Aa)),(1,.i v.fr),(5,.sl (G.length+1) 2 0 (out++[v.on]).length)]) ?_ (by simp);refine ih (v.fr,G.length+1,out++[v.on],_) ⟨⟨d',h3,by rw[z1,h4];simp⟩,by simp;omega,?_⟩ h2;simp only;rw[zE (by simp)];simp[encSy]
end Go.Abs
namespace Go.Abs
open Go Go.Proofs Go.Maps Go.RowKit
theorem k1i(x y:Int):(if x<y then y else x)=max x y:=by omega
def c14:Option Int→AV
 |some n=> .tup [.i n,.bool true]
 |none=> .tup [.i 0,.bool false]
def c0p:Option Sy→AV
 |some x=> .tup [encSy x,.bool true]
 |none=> .tup [encSy ⟨0,0⟩,.bool false]
attribute [local irreducible] lqB Xe
end Go.Abs
namespace Go.Abs
open Go Go.Proofs Go.Maps Go.RowKit
def g0a:Option Int→AV
 |some m=> .tup [.i m,.bool true]
 |none=> .tup [.i 0,.bool false]
theorem d04(l:List Iv)(n:Int):PC Tryz.prog 281 [LIv l,.i n] (fun r=>r=g0a (z0j l n)):=by
 refine Qh tOk Tryz.func281 rfl Tryz.results281 rfl (by simp[Tryz.ntmps281]) ?_;rw[Tryz.ntmps281];simp only[Qe];refine Tt 0 rfl (fun hlen=> ?_);rw[zY]at hlen;obtain⟨R,hR⟩:∃R,z0j l n=R:=⟨_,rfl⟩
 rw[hR];repeat first|(refine r_ ?_;simp)|refine q_ ?_
 refine Qv l.length (fun j=>z0j (l.drop j) n=R) (fun j=>[(1,.i n),(8,LIv l),(9,.i l.length),(10,.i j)]) (fun _=>[]) rfl (by simp) (by simp) (by simp) (by simp) (by simpa using hR) ?_;intro j hj hI ih;repeat first|(refine r_ ?_;simp)|refine q_ ?_
 refine Qa rfl (fun za=> ?_) (fun zb=> ?_)
 ·have z1:j<l.length:=by simpa using za
  have hw:IntKind.i64.wrap ((j:Int)+1)=j+1:=wrap_i64 _ (by omega) (by omega);rw[W8 z1,z0j]at hI;have z7:(l.map encIv)[j]? =some (encIv l[j]):=by simp[z1]
  have z8:∀hh,(l.map encIv)[j]'hh=encIv l[j]:=fun hh=>by simp
  generalize l[j]=x at *;simp only[encIv]at z7 z8
  repeat first|(refine r_ ?_;simp[z7,z8,z1])|refine q_ ?_
  refine Qa rfl (fun h=> ?_) (fun h=> ?_)
  ·rw[if_pos (by simpa using h)]at hI;subst hI;repeat first|(refine r_ ?_;simp)|refine q_ ?_
   simp only[g0a,k1i]
  ·rw[if_neg (by simpa using h)]at hI;repeat first|(refine r_ ?_;simp[hw])|refine q_ ?_
   refine Qs _ (ih z1 hI) rfl (by simp) ?_ (by simp) (by simp);simp
 ·have z6:j=l.length:=by simp at zb;omega
  subst z6;rw[xA]at hI;subst hI;repeat first|(refine r_ ?_;simp)|refine q_ ?_
  rfl
def bdL(l:List Iv):Prop:=∀x∈l,-1099511627776≤x.lo∧x.hi≤1099511627776
theorem z0c(l:List Iv)(n:Int)(hb:bdL l):PC Tryz.prog 282 [LIv l,.i n] (fun r=>r= .i (N8 l n)):=by
 refine Qh tOk Tryz.func282 rfl Tryz.results282 rfl (by simp[Tryz.ntmps282]) ?_;rw[Tryz.ntmps282];simp only[Qe];refine Tt 0 rfl (fun hlen=> ?_);rw[zY]at hlen;obtain⟨R,hR⟩:∃R,N8 l n=R:=⟨_,rfl⟩
 rw[hR];repeat first|(refine r_ ?_;simp)|refine q_ ?_
 refine Ql (Qb (sl':=[(1,.i n),(7,LIv l),(8,.i l.length),(9,.i (0:Nat))]) ?_ (by simp));refine Qn (P:=Tryz.prog) (F:=fun(u:Nat×Int×List AObj)=>⟨[(1,.i u.2.1),(7,LIv l),(8,.i l.length),(9,.i u.1)],u.2.2⟩)
  (fun u=>u.1≤l.length∧N8 (l.drop u.1) u.2.1=R) (fun u=>l.length - u.1) ?_ (0,n,[]) ⟨xG _,by simpa using hR⟩
 clear hR;rintro⟨j,c,G⟩ ⟨hj,hI⟩ ih;simp only at hj hI ih ⊢;repeat first|(refine r_ ?_;simp)|refine q_ ?_
 refine Qa rfl (fun zb=> ?_) (fun zc=> ?_)
 ·have z1:j<l.length:=by simpa using zb
  have hw:IntKind.i64.wrap ((j:Int)+1)=j+1:=wrap_i64 _ (by omega) (by omega);rw[W8 z1,N8]at hI;have z6:(l.map encIv)[j]? =some (encIv l[j]):=by simp[z1]
  have z7:∀hh,(l.map encIv)[j]'hh=encIv l[j]:=fun hh=>by simp
  have hx:=hb _ (zH z1);generalize l[j]=x at *;simp only[encIv]at z6 z7
  by_cases h1:x.lo≤c
  ·have d1:decide (x.lo≤c)=true:=by simpa using h1
   repeat first|(refine r_ ?_;simp[z6,z7,z1,d1])|refine q_ ?_
   refine Qa rfl (fun h=> ?_) (fun h=> ?_)
   ·have h2:c≤x.hi:=by simpa using h
    rw[if_pos ⟨h1,h2⟩]at hI;have z8:IntKind.i64.wrap (x.hi+1)=x.hi+1:=wrap_i64 _ (by omega) (by omega);repeat first|(refine r_ ?_;simp[z8,hw])|refine q_ ?_
    refine Qb (sl':=[(1,.i (x.hi+1)),(7,LIv l),(8,.i l.length),(9,.i (j+1:Nat))]) ?_ (by simp);exact ih (j+1,x.hi+1,_) ⟨by simp only;omega,hI⟩ (by simp only;omega)
   ·have h2:¬c≤x.hi:=by simpa using h
    rw[if_neg (fun k=>h2 k.2)]at hI;repeat first|(refine r_ ?_;simp[hw])|refine q_ ?_
    refine Qb (sl':=[(1,.i c),(7,LIv l),(8,.i l.length),(9,.i (j+1:Nat))]) ?_ (by simp);exact ih (j+1,c,_) ⟨by simp only;omega,hI⟩ (by simp only;omega)
  ·have d1:decide (x.lo≤c)=false:=by simpa using h1
   rw[if_neg (fun k=>h1 k.1)]at hI;repeat first|(refine r_ ?_;simp[z6,z7,z1,d1])|refine q_ ?_
   refine Qa rfl (fun h=>by simp at h) (fun h=> ?_);repeat first|(refine r_ ?_;simp[hw])|refine q_ ?_
   refine Qb (sl':=[(1,.i c),(7,LIv l),(8,.i l.length),(9,.i (j+1:Nat))]) ?_ (by simp);exact ih (j+1,c,_) ⟨by simp only;omega,hI⟩ (by simp only;omega)
 ·have za:j=l.length:=by simp at zc;omega
  subst za;rw[xA]at hI;subst hI;repeat first|(refine r_ ?_;simp)|refine q_ ?_
  rfl
def g02:Option Int→AV
 |some m=> .tup [.i m,.bool (decide (m≤1099511627776))]
 |none=> .tup [.i 0,.bool false]
def f1s(O:List (List Iv)):Option Int→Option Int
 |some m=>some (k0p O m)
 |none=>none
theorem y13(I O:List (List Iv))(n:Int):q15 I O n=f1s O (y04 I n):=by unfold q15 f1s;cases y04 I n<;>rfl
theorem Np{t:Nat}{ps:List Prd}{j:Nat}(h:j<ps.length):P0 t (ps.drop j)=ps[j].getD t []::P0 t (ps.drop (j+1)):=by unfold P0;rw[W8 h];rfl
theorem v1r{T:Nat}{p:Prd}(h:PCk T p){s:List Iv}(hs:s∈p):bdL s:=fun x hx=>by obtain⟨i,hi,rfl⟩:=List.getElem_of_mem hx;have:=(h.2 s hs).iv hi;omega
theorem v0j{p:Prd}{t:Nat}(h:t<p.length):p.getD t []=p[t]:=by simp[yP,h]
theorem K6{T:Nat}{p:Prd}(h:PCk T p){t:Nat}(ht:t<T):(p.map encL)[t]? =some (encL (p.getD t []))∧p.getD t []∈p:=by
 have hl:t<p.length:=by rw[h.1];exact ht
 rw[v0j hl];exact⟨by simp[hl],zH hl⟩
attribute [local irreducible] z0j N8
theorem c0a(T:Nat)(ins outs:List Prd)(zj:∀p∈ins,PCk T p)(zc:∀p∈outs,PCk T p)(t:Nat)(ht:t<T)(n:Int):PC Tryz.prog 233 [.i n,.i t,LP ins,LP outs] (fun r=>r=g02 (q15 (P0 t ins) (P0 t outs) n)):=by
 refine Qh tOk Tryz.func233 rfl Tryz.results233 rfl (by simp[Tryz.ntmps233]) ?_;rw[Tryz.ntmps233];simp only[Qe];refine Tt 2 rfl (fun hlen=> ?_);refine Tt 3 rfl (fun z7=> ?_);rw[zY]at hlen z7;obtain⟨R,hR⟩:∃R,q15 (P0 t ins) (P0 t outs) n=R:=⟨_,rfl⟩
 rw[hR];rw[y13]at hR;repeat first|(refine r_ ?_;simp)|refine q_ ?_
 refine Ql (Qb (sl':=[(0,.i n),(1,.i t),(3,LP outs),(16,LP ins),(17,.i ins.length),(18,.i (0:Nat))]) ?_ (by simp));refine Qn (P:=Tryz.prog) (F:=fun(u:Nat×Int×List AObj)=>⟨[(0,.i u.2.1),(1,.i t),(3,LP outs),(16,LP ins),(17,.i ins.length),(18,.i u.1)],u.2.2⟩)
  (fun u=>u.1≤ins.length∧f1s (P0 t outs) (y04 (P0 t (ins.drop u.1)) u.2.1)=R) (fun u=>ins.length - u.1) ?_ (0,n,[]) ⟨xG _,by simpa using hR⟩
 clear hR;rintro⟨j,c,G⟩ ⟨hj,hI⟩ ih;simp only at hj hI ih ⊢;repeat first|(refine r_ ?_;simp)|refine q_ ?_
 refine Qa rfl (fun zd=> ?_) (fun ze=> ?_)
 ·have z1:j<ins.length:=by simpa using zd
  have hw:IntKind.i64.wrap ((j:Int)+1)=j+1:=wrap_i64 _ (by omega) (by omega);rw[Np z1,y04]at hI;have z8:(ins.map encP)[j]? =some (encP ins[j]):=by simp[z1]
  have za:∀hh,(ins.map encP)[j]'hh=encP ins[j]:=fun hh=>by simp
  have hp:=zj _ (zH z1);generalize ins[j]=p at *
  obtain⟨zb,zh⟩:=K6 hp ht;have zf:∀hh,(p.map encL)[t]'hh=encL (p.getD t []):=fun hh=>(yX hh).2 zb;have zg:t<p.length:=by rw[hp.1];exact ht
  generalize p.getD t []=s at *;simp only[encP]at z8 za
  repeat first|(refine r_ ?_;simp[z8,za,z1,zb,zf,zg])|refine q_ ?_
  refine Qc rfl rfl (by simp) (d04 s c) rfl ?_;rintro _ rfl;simp;cases hf:z0j s c with
  |none=>
   rw[hf]at hI;simp only at hI;subst hI;simp[g0a];repeat first|(refine r_ ?_;simp)|refine q_ ?_
   refine Qa rfl (fun _=> ?_) (fun h=>by simp at h);repeat first|(refine r_ ?_;simp)|refine q_ ?_
   rfl
  |some m=>
   rw[hf]at hI;simp only at hI;simp[g0a];repeat first|(refine r_ ?_;simp)|refine q_ ?_
   refine Qa rfl (fun h=>by simp at h) (fun _=> ?_);repeat first|(refine r_ ?_;simp[hw])|refine q_ ?_
   refine Qb (sl':=[(0,.i m),(1,.i t),(3,LP outs),(16,LP ins),(17,.i ins.length),(18,.i (j+1:Nat))]) ?_ (by simp);exact ih (j+1,m,_) ⟨by simp only;omega,hI⟩ (by simp only;omega)
 ·have z6:j=ins.length:=by simp at ze;omega
  subst z6;rw[xA]at hI;simp only[P0,xP,y04]at hI;clear ih;repeat first|(refine r_ ?_;simp)|refine q_ ?_
  have zi:some (k0p (P0 t outs) c)=R:=hI;refine Ql (Qb (sl':=[(0,.i c),(1,.i t),(36,LP outs),(37,.i outs.length),(38,.i (0:Nat))]) ?_ (by simp));refine Qn (P:=Tryz.prog) (F:=fun(u:Nat×Int×List AObj)=>⟨[(0,.i u.2.1),(1,.i t),(36,LP outs),(37,.i outs.length),(38,.i u.1)],u.2.2⟩)
   (fun u=>u.1≤outs.length∧some (k0p (P0 t (outs.drop u.1)) u.2.1)=R) (fun u=>outs.length - u.1) ?_ (0,c,G) ⟨xG _,by simpa using zi⟩
  clear hI zi;clear G c;rintro⟨j,c,G⟩ ⟨hj,hI⟩ ih;simp only at hj hI ih ⊢;repeat first|(refine r_ ?_;simp)|refine q_ ?_
  refine Qa rfl (fun zd=> ?_) (fun ze=> ?_)
  ·have z1:j<outs.length:=by simpa using zd
   have hw:IntKind.i64.wrap ((j:Int)+1)=j+1:=wrap_i64 _ (by omega) (by omega);rw[Np z1,k0p]at hI;have z8:(outs.map encP)[j]? =some (encP outs[j]):=by simp[z1]
   have za:∀hh,(outs.map encP)[j]'hh=encP outs[j]:=fun hh=>by simp
   have hp:=zc _ (zH z1);generalize outs[j]=p at *
   obtain⟨zb,zh⟩:=K6 hp ht;have zf:∀hh,(p.map encL)[t]'hh=encL (p.getD t []):=fun hh=>(yX hh).2 zb;have zg:t<p.length:=by rw[hp.1];exact ht
   have zk:=v1r hp zh;generalize p.getD t []=s at *;simp only[encP]at z8 za
   repeat first|(refine r_ ?_;simp[z8,za,z1,zb,zf,zg])|refine q_ ?_
   refine Qc rfl rfl (by simp) (z0c s c zk) rfl ?_;rintro _ rfl;simp;generalize N8 s c=m at *
   repeat first|(refine r_ ?_;simp[hw])|refine q_ ?_
   refine Qb (sl':=[(0,.i m),(1,.i t),(36,LP outs),(37,.i outs.length),(38,.i (j+1:Nat))]) ?_ (by simp);exact ih (j+1,m,_) ⟨by simp only;omega,hI⟩ (by simp only;omega)
  ·have z6:j=outs.length:=by simp at ze;omega
   subst z6;rw[xA]at hI;simp only[P0,xP,k0p]at hI;subst hI;repeat first|(refine r_ ?_;simp)|refine q_ ?_
   simp[g02]
theorem u12{T:Nat}{ps:List Prd}(h:∀p∈ps,PCk T p){t:Nat}(ht:t<T):∀l∈P0 t ps,Sep l:=fun l hl=>by unfold P0 at hl;obtain⟨p,hp,rfl⟩:=zL.1 hl;exact Pd ((h p hp).2 _ (K6 (h p hp) ht).2)
attribute [local irreducible] q15 Gb
theorem Xp(T:Nat)(hT:T≤1000)(ins outs:List Prd)(zi:∀p∈ins,PCk T p)(ze:∀p∈outs,PCk T p)(P:Prd)(hf:FitP T ins outs P):PC Tryz.prog 193 [.i T,LP ins,LP outs] (fun r=>r=c0p (Lh P)):=by
 refine Qh tOk Tryz.func193 rfl Tryz.results193 rfl (by simp[Tryz.ntmps193]) ?_;rw[Tryz.ntmps193];simp only[Qe];have hex:=fun t n=>hf.mem t n;have za:=fun t n h1 h2 h3 h4 h5=>hf.some (t:=t) (n:=n) h1 h2 h3 h4 h5;have zb:=hf.none;have zj:=fun t h k=>hf.no (t:=t) h k;generalize Lh P=R at *
 repeat first|(refine r_ ?_;simp)|refine q_ ?_
 refine Ql (Qb (sl':=[(1,LP ins),(2,LP outs),(6,.vptr 0 0),(12,.i T),(13,.i (0:Nat))]) ?_ (by simp));refine Qn (P:=Tryz.prog) (F:=fun(t:Nat)=>⟨[(1,LP ins),(2,LP outs),(6,.vptr 0 0),(12,.i T),(13,.i t)],[.vars [.i 0,.i 0]]⟩)
  (fun t=>t≤T∧∀t',t'<t→∀k,¬PM P t' k) (fun t=>T - t) ?_ 0 ⟨xG _,fun t' h=>absurd h (ta _)⟩
 rintro t ⟨zn,hb⟩ ih;repeat first|(refine r_ ?_;simp)|refine q_ ?_
 refine Qa rfl (fun zk=> ?_) (fun zl=> ?_)
 ·have z6:t<T:=by simpa using zk
  have hw:IntKind.i64.wrap ((t:Int)+1)=t+1:=wrap_i64 _ (by omega) (by omega);have zc:=fun n=>c0a T ins outs zi ze t z6 n;have zm:=fun n=>c00 (P0 t ins) (P0 t outs) n (u12 zi z6);have z7:=fun n=>za t n z6 hb;have zf:=zj t;generalize P0 t ins=I at *;generalize P0 t outs=O at *
  repeat first|(refine r_ ?_;simp)|refine q_ ?_
  refine Ql (Qb (sl':=[(1,LP ins),(2,LP outs),(6,.vptr 0 0),(8,.i t),(9,.i (-1099511627776)),(12,.i T),(13,.i t)]) ?_ (by simp));refine Qn (P:=Tryz.prog) (F:=fun(n:Int)=>⟨[(1,LP ins),(2,LP outs),(6,.vptr 0 0),(8,.i t),(9,.i n),(12,.i T),(13,.i t)],[.vars [.i 0,.i 0]]⟩)
   (fun n=>inR n∧∀k,inR k→Gb I O k→n≤k) (fun n=>(1099511627777 - n).toNat) ?_ (-1099511627776) ⟨by unfold inR;omega,fun k hk _=>hk.1⟩
  rintro n ⟨hn,z1⟩ ih2;repeat first|(refine r_ ?_;simp)|refine q_ ?_
  refine Qc rfl rfl (by simp) (zc n) rfl ?_;rintro _ rfl;simp;have z8:=zm n;have zd:(∀k,inR k→¬Gb I O k)→∀t',t'<t+1→∀k,¬PM P t' k:=fun h t' zo k=>by
   by_cases e:t'=t
   ·subst e;exact zf h k
   ·exact hb t' (by omega) k
  cases hx:q15 I O n with
  |none=>
   rw[hx]at z8;simp only at z8;simp[g02];repeat first|(refine r_ ?_;simp)|refine q_ ?_
   refine Qa rfl (fun _=> ?_) (fun h=>by simp at h);repeat first|(refine r_ ?_;simp[hw])|refine q_ ?_
   refine Qb (sl':=[(1,LP ins),(2,LP outs),(6,.vptr 0 0),(12,.i T),(13,.i (t+1:Nat))]) ?_ (by simp);exact ih (t+1) ⟨by omega,zd fun k hk hg=>z8 k (z1 k hk hg) hg⟩ (by omega)
  |some m=>
   rw[hx]at z8;simp only at z8;obtain⟨s1,s2,s3⟩:=z8;simp[g02];by_cases hm:m≤1099511627776
   ·repeat first|(refine r_ ?_;simp[hm])|refine q_ ?_
    refine Qa rfl (fun h=>by simp[hm]at h) (fun _=> ?_);repeat first|(refine r_ ?_;simp)|refine q_ ?_
    refine Qa rfl (fun h=> ?_) (fun h=> ?_)
    ·have e:m=n:=by simpa using h
     have zg:=z7 n hn (s3 e) z1;subst zg;repeat first|(refine r_ ?_;simp)|refine q_ ?_
     simp[c0p,encSy]
    ·have e:m≠n:=by simpa using h
     repeat first|(refine r_ ?_;simp)|refine q_ ?_
     refine Qb (sl':=[(1,LP ins),(2,LP outs),(6,.vptr 0 0),(8,.i t),(9,.i m),(12,.i T),(13,.i t)]) ?_ (by simp);exact ih2 m ⟨⟨by have:=hn.1;omega,hm⟩,fun k hk hg=>s2 k (z1 k hk hg) hg⟩ (by have:=hn.1;omega)
   ·repeat first|(refine r_ ?_;simp[hm])|refine q_ ?_
    refine Qa rfl (fun _=> ?_) (fun h=>by simp[hm]at h);repeat first|(refine r_ ?_;simp[hw])|refine q_ ?_
    refine Qb (sl':=[(1,LP ins),(2,LP outs),(6,.vptr 0 0),(12,.i T),(13,.i (t+1:Nat))]) ?_ (by simp);exact ih (t+1) ⟨by omega,zd fun k hk hg=>hm (Int.le_trans (s2 k (z1 k hk hg) hg) hk.2)⟩ (by omega)
 ·have zh:t=T:=by simp at zl;omega
  subst zh;have zg:=zb hb;subst zg;repeat first|(refine r_ ?_;simp)|refine q_ ?_
  simp[c0p,encSy]
end Go.Abs
namespace Go.Abs
open Go Go.Proofs Go.Maps Go.RowKit
section
variable {P:Program} [Env P] {nt k:Nat} {ops:Array Oper} {o:Oper} {R:AS→Prop}
theorem Z4{wr:Bool}{sl:List (Nat×AV)}{H:List AObj}(i:Nat){e c:Nat}{xs:List AV}(hi:H[i]? =some (.arr e c xs))(h:Wh P nt k wr ops o ⟨sl,H.set i (.arr e c (xs.map AV.nrm))⟩ R):Wh P nt k wr ops o ⟨sl,H⟩ R:=
 fun C a w K Q hs=>h C a w K Q (hs.swap hi rfl (fun _ _=>Um.nrmArr))
end
def Wp(s:Int):Option Mv→AV
 |some m=>encMv m
 |none=> .agg [.i s,.i (-1),.list []]
theorem Nw{a:Aut}{s:Int}{j:Nat}(h:j<a.mv.length):(a.mv.take (j+1)).filter (fun m=>decide (m.src=s))=(a.mv.take j).filter (fun m=>decide (m.src=s))++(if a.mv[j].src=s then [a.mv[j]]else []):=by
 rw[zO h,List.filter_append]
 congr 1
 by_cases e:a.mv[j].src=s<;>simp[e]
theorem c1s(a:Aut)(s:Int)(j:Nat):((a.mv.take j).filter fun m=>decide (m.src=s)).length≤a.mv.length:=Nat.le_trans (wY _ _) (by rw[List.length_take];omega)
theorem Dj(a:Aut)(s:Int)(zm:a.mv.length≤1000000):PC Tryz.prog 191 [encA a,.i s] (fun r=>r= .list ((Wd a s).map (Wp s))):=by
 refine Qh tOk Tryz.func191 rfl Tryz.results191 rfl (by simp[Tryz.ntmps191]) ?_;rw[Tryz.ntmps191];simp only[Qe];simp only[encA];refine Wl 0 2 rfl rfl (fun hlen=> ?_);rw[zY]at hlen;repeat first|(refine r_ ?_;simp)|refine q_ ?_
 have zc:=fun j (h:j<a.mv.length)=>Nw (a:=a) (s:=s) h;have zd:=fun j=>c1s a s j;refine Wm 5 73 3 rfl ?_;simp;obtain⟨K,hK⟩:∃K,K=[AObj.vars (Qo a)]:=⟨_,rfl⟩
 have hst:=SL.start K 73 3;refine Ql (Qb (sl':=[(1,.i s),(5,.sl 1 3 0 ((a.mv.take 0).filter fun m=>decide (m.src=s)).length),(9,.list (a.mv.map encMv)),(10,.i a.mv.length),(11,.i (0:Nat))]) ?_ (by simp));refine Qn (P:=Tryz.prog) (F:=fun(u:Nat×Nat×List AObj)=>⟨[(1,.i s),(5,.sl u.2.1 3 0 ((a.mv.take u.1).filter fun m=>decide (m.src=s)).length),(9,.list (a.mv.map encMv)),(10,.i a.mv.length),(11,.i u.1)],u.2.2⟩)
  (fun u=>u.1≤a.mv.length∧SL K u.2.2 u.2.1 73 3 (((a.mv.take u.1).filter fun m=>decide (m.src=s)).map encMv)) (fun u=>a.mv.length - u.1) ?_ (0,1,_) ⟨xG _,by rw[hK]at hst ⊢;simpa using hst⟩
 rintro⟨j,q,G⟩ ⟨hj,g⟩ ih;simp only at hj g ih ⊢;have z8:=zd j;repeat first|(refine r_ ?_;simp)|refine q_ ?_
 refine Qa rfl (fun ze=> ?_) (fun zf=> ?_)
 ·have z1:j<a.mv.length:=by simpa using ze
  have hw:IntKind.i64.wrap ((j:Int)+1)=j+1:=wrap_i64 _ (by omega) (by omega);have zg:=zc j z1;have z6:=fun q' G'=>ih (j+1,q',G');simp only[zg]at z6;have za:(a.mv.map encMv)[j]? =some (encMv a.mv[j]):=by simp[z1]
  have zb:∀hh,(a.mv.map encMv)[j]'hh=encMv a.mv[j]:=fun hh=>by simp
  generalize a.mv[j]=m at *;generalize (a.mv.take j).filter (fun m=>decide (m.src=s))=P at *
  have z7:(P.map encMv).length=P.length:=by simp
  simp only[encMv]at za zb;repeat first|(refine r_ ?_;simp[za,zb,z1])|refine q_ ?_
  refine Qa rfl (fun h=> ?_) (fun h=> ?_)
  ·have e:m.src=s:=by simpa using h
   rw[if_pos e]at z6;repeat first|(refine r_ ?_;simp)|refine q_ ?_
   refine Qm tOk rfl rfl T23 rfl T73 rfl (by decide) (by decide) rfl rfl rfl ?_;simp[Qd g.arr,Qr g.arr,z7];refine⟨by simp[Rl,Qd g.arr,Qr g.arr,z7]<;>omega,?_⟩;repeat first|(refine r_ ?_;simp[hw])|refine q_ ?_
   refine Qb (sl':=[(1,.i s),(5,.sl (G.length+2) 3 0 (P++[m]).length),(9,.list (a.mv.map encMv)),(10,.i a.mv.length),(11,.i (j+1:Nat))]) ?_ (by simp);have:=z6 (G.length+2) _ ⟨by omega,g.put [AObj.vars [.i m.src,.i m.dst,.list (m.on.map encL)],AObj.arr 73 3 [encMv m]] ((P++[m]).map encMv) rfl⟩ (by omega);simpa[encMv]using this
  ·have e:m.src≠s:=by simpa using h
   rw[if_neg e,xR]at z6;repeat first|(refine r_ ?_;simp[hw])|refine q_ ?_
   refine Qb (sl':=[(1,.i s),(5,.sl q 3 0 P.length),(9,.list (a.mv.map encMv)),(10,.i a.mv.length),(11,.i (j+1:Nat))]) ?_ (by simp);exact z6 q _ ⟨by omega,g.add _⟩ (by omega)
 ·have zh:j=a.mv.length:=by simp at zf;omega
  subst zh;have zi:a.mv.take a.mv.length=a.mv:=yF;rw[zi]at g z8 ⊢;have zj:a.mv.filter (fun m=>decide (m.src=s))=mvS a s:=rfl;have zk:(Wd a s).map (Wp s)=(mvS a s).map encMv++[.agg [.i s,.i (-1),.list []]]:=by unfold Wd;simp[Wp]
  rw[zk];rw[zj]at g z8 ⊢;generalize mvS a s=P at *
  have z7:(P.map encMv).length=P.length:=by simp
  repeat first|(refine r_ ?_;simp)|refine q_ ?_
  refine Z4 G.length (e:=73) (c:=3) (xs:=[.agg [.i s,.i (-1),.nils]]) (by simp) ?_;have zl:∀u z:AObj,(G++[u]).set G.length z=G++[z]:=fun u z=>by rw[List.set_append_right _ _ (by simp)];simp
  simp[zl];refine Qm tOk rfl rfl T23 rfl T73 rfl (by decide) (by decide) rfl rfl rfl ?_;simp[Qd g.arr,Qr g.arr,z7];refine⟨by simp[Rl,Qd g.arr,Qr g.arr,z7]<;>omega,?_⟩;repeat first|(refine r_ ?_;simp)|refine q_ ?_
  rw[zS (by simp)]
theorem Zl(a:Aut)(s:Int)(i:Nat)(o:Option Mv)(h:(Wd a s)[i]? =some o)(hl:a.mv.length≤1000000):PC Tryz.prog 192 [.list ((Wd a s).map (Wp s)),.i i] (fun r=>r= .tup [LP (Hv o),LP (Ps a s o)]):=by
 refine Qh tOk Tryz.func192 rfl Tryz.results192 rfl (by simp[Tryz.ntmps192]) ?_;rw[Tryz.ntmps192];simp only[Qe];have zr:(mvS a s).length≤a.mv.length:=wY _ _;have zh:(Wd a s).length=(mvS a s).length+1:=by unfold Wd;simp
 have zi:i<(Wd a s).length:=(zA.1 h).1;have zj:IntKind.i64.wrap ((mvS a s).length:Int)=(mvS a s).length:=wrap_i64 _ (by omega) (by omega);repeat first|(refine r_ ?_;simp[zh,zj])|refine q_ ?_
 refine Qa rfl (fun zk=> ?_) (fun zl=> ?_)
 ·have z7:i<(mvS a s).length:=by simpa using zk
  obtain⟨m,rfl,z6⟩:∃m,o=some m∧((Wd a s).map (Wp s))[i]? =some (encMv m):=by unfold Wd at h ⊢;rw[zD (by simpa using z7)]at h;rw[zP,zD (by simpa using z7),h];rw[zP]at h;obtain⟨m,_,rfl⟩:=zJ.1 h;exact⟨m,rfl,rfl⟩
  have z8:∀hh,((Wd a s).map (Wp s))[i]'hh=encMv m:=fun hh=>(yX hh).2 z6;generalize Wd a s=L at *;simp only[encMv]at z6 z8
  repeat first|(refine r_ ?_;simp[z6,z8,zi])|refine q_ ?_
  exact⟨rfl,rfl⟩
 ·have zm:i=(mvS a s).length:=by simp at zl;omega
  subst zm;obtain rfl:o=none:=by unfold Wd at h;rw[zE (by simp)]at h;simpa using h.symm
  have zn:((Wd a s).map (Wp s)).take (mvS a s).length=(mvS a s).map encMv:=by unfold Wd;rw[yU,List.take_append_of_le_length (by simp),zS (by simp)];simp[Wp]
  have hle:(mvS a s).length≤(Wd a s).length:=by omega
  repeat first|(refine r_ ?_;simp[hle])|refine q_ ?_
  rw[if_pos (fun o ho=>by cases o<;>rfl)];simp;rw[zn];have za:min (mvS a s).length (Wd a s).length=(mvS a s).length:=by omega
  rw[za];have zb:Ps a s none=(mvS a s).map (·.on):=rfl;rw[zb];generalize mvS a s=P at *;refine Wm 5 70 1 rfl ?_
  simp;repeat first|(refine r_ ?_;simp)|refine q_ ?_
  refine Ql (Qb (sl':=[(4,.nils),(5,.sl 0 1 0 (0:Nat)),(21,.list (P.map encMv)),(22,.i P.length),(23,.i (0:Nat))]) ?_ (by simp));refine Qn (P:=Tryz.prog) (F:=fun(u:Nat×Nat×List AObj)=>⟨[(4,.nils),(5,.sl u.2.1 1 0 u.1),(21,.list (P.map encMv)),(22,.i P.length),(23,.i u.1)],u.2.2⟩)
   (fun u=>u.1≤P.length∧u.2.2[u.2.1]? =some (.arr 70 1 ((P.take u.1).map fun m=>encP m.on))) (fun u=>P.length - u.1) ?_ (0,0,_) ⟨xG _,by simp⟩
  rintro⟨j,q,G⟩ ⟨hj,gq⟩ ih;simp only at hj gq ih ⊢;repeat first|(refine r_ ?_;simp)|refine q_ ?_
  refine Qa rfl (fun zc=> ?_) (fun zd=> ?_)
  ·have z1:j<P.length:=by simpa using zc
   have zo:IntKind.i64.wrap ((j:Int)+1)=j+1:=wrap_i64 _ (by omega) (by omega);have ze:(P.take (j+1)).map (fun m=>encP m.on)=(P.take j).map (fun m=>encP m.on)++[encP P[j].on]:=by rw[zO z1,yU];rfl
   have zf:=fun q' G'=>ih (j+1,q',G');simp only[ze]at zf;have z6:(P.map encMv)[j]? =some (encMv P[j]):=by simp[z1]
   have z8:∀hh,(P.map encMv)[j]'hh=encMv P[j]:=fun hh=>by simp
   have zg:((P.take j).map fun m=>encP m.on).length=j:=by simp;omega
   clear ze;generalize (P.take j).map (fun m=>encP m.on)=acc at *
   generalize P[j]=m at *;simp only[encMv]at z6 z8
   repeat first|(refine r_ ?_;simp[z6,z8,z1])|refine q_ ?_
   refine Qm tOk rfl rfl T87 rfl T70 rfl (by decide) (by decide) rfl rfl rfl ?_;simp[Qd gq,Qr gq,zg];refine⟨by simp[Rl,Qd gq,Qr gq,zg]<;>omega,?_⟩;repeat first|(refine r_ ?_;simp[zo])|refine q_ ?_
   refine Qb (sl':=[(4,.nils),(5,.sl (G.length+2) 1 0 (j+1)),(21,.list (P.map encMv)),(22,.i P.length),(23,.i (j+1:Nat))]) ?_ (by simp);refine zf (G.length+2) _ ⟨by omega,?_⟩ (by omega);rw[zE (by simp)];simp[encP]
  ·have zp:j=P.length:=by simp at zd;omega
   subst zp;rw[yF]at gq;have zq:P.map (fun m=>encP m.on)=(P.map (·.on)).map encP:=by rw[List.map_map];rfl
   rw[zq]at gq;repeat first|(refine r_ ?_;simp[gq])|refine q_ ?_
   refine⟨rfl,?_⟩;rw[zS (by simp)]
end Go.Abs
namespace Go.Abs
open Go Go.Proofs Go.Maps Go.RowKit
attribute [simp] T25 T35
theorem By(a b:Aut):PC Tryz.prog 126 [encA a,encA b] (fun r=>r= .i (Wv a b)):=by
 refine Qh tOk Tryz.func126 rfl Tryz.results126 rfl (by simp[Tryz.ntmps126]) ?_;rw[Tryz.ntmps126];simp only[Qe];have cA:=Ie a;have cB:=Ie b;simp only[encA]at cA cB ⊢;obtain⟨R,hR⟩:∃R,Wv a b=R:=⟨_,rfl⟩
 rw[hR];unfold Wv at hR;have w1:IntKind.i64.wrap 1=1:=by decide
 have w2:IntKind.i64.wrap 2=2:=by decide
 repeat first|(refine r_ ?_;simp)|refine q_ ?_
 refine Qv 2 (fun j=>j=0∨We a=0∧(j=1∨We b=0)) (fun j=>[(2,.vptr 0 0),(3,.vptr 1 0),(10,.sl 2 3 0 2),(11,.i (2:Nat)),(12,.i j)]) (fun _=>[.vars (Qo a),.vars (Qo b),.arr 25 3 [.agg (Qo a),.agg (Qo b)]]) rfl (by simp) (by simp) (by simp) (by simp) (.inl rfl) ?_;intro j hj hI ih;repeat first|(refine r_ ?_;simp)|refine q_ ?_
 refine Qa rfl (fun z8=> ?_) (fun za=> ?_)
 ·have z1:j<2:=by simp at z8;omega
  obtain rfl|rfl:j=0∨j=1:=by omega
  ·repeat first|(refine r_ ?_;simp)|refine q_ ?_
   refine Qc rfl rfl (by simp) (cA) rfl ?_;rintro _ rfl;simp;repeat first|(refine r_ ?_;simp)|refine q_ ?_
   refine Qa rfl (fun h=> ?_) (fun h=> ?_)
   ·rw[if_pos (by simpa using h)]at hR;subst hR;repeat first|(refine r_ ?_;simp)|refine q_ ?_
   ·repeat first|(refine r_ ?_;simp[w1])|refine q_ ?_
    refine Qs _ (ih z1 (.inr ⟨by simpa using h,.inl rfl⟩)) rfl (by simp) ?_ (by simp) (by simp);simp
  ·have h0:We a=0:=by rcases hI with h|h;exact absurd h (by decide);exact h.1
   rw[if_neg (by simpa using h0)]at hR;repeat first|(refine r_ ?_;simp)|refine q_ ?_
   refine Qc rfl rfl (by simp) (cB) rfl ?_;rintro _ rfl;simp;repeat first|(refine r_ ?_;simp)|refine q_ ?_
   refine Qa rfl (fun h=> ?_) (fun h=> ?_)
   ·rw[if_pos (by simpa using h)]at hR;subst hR;repeat first|(refine r_ ?_;simp)|refine q_ ?_
   ·repeat first|(refine r_ ?_;simp[w2])|refine q_ ?_
    refine Qs _ (ih z1 (.inr ⟨h0,.inr (by simpa using h)⟩)) rfl (by simp) ?_ (by simp) (by simp);simp
 ·have z6:j=2:=by simp at za;omega
  subst z6;have z7:We a=0∧We b=0:=by
   rcases hI with h|⟨h1,h2⟩
   ·exact absurd h (by decide)
   ·exact⟨h1,h2.elim (fun h=>absurd h (by decide)) id⟩
  rw[if_neg (by simpa using z7.1),if_neg (by simpa using z7.2)]at hR;repeat first|(refine r_ ?_;simp)|refine q_ ?_
  refine Qa rfl (fun h=> ?_) (fun h=> ?_)
  ·rw[if_pos (by simpa using h)]at hR;subst hR;repeat first|(refine r_ ?_;simp)|refine q_ ?_
  ·rw[if_neg (by simpa using h)]at hR;subst hR;repeat first|(refine r_ ?_;simp)|refine q_ ?_
theorem Nr{n j:Nat}(h:j≤n){p:Int→Bool}(hp:∀i:Nat,i<j→p i=true)(hn:j=n∨p j=false):(Wo n).all p=decide (j=n):=by
 rw[Bool.eq_iff_iff,List.all_eq_true,decide_eq_true_eq];constructor
 ·intro k;rcases hn with e|e
  ·exact e
  ·by_cases e2:j=n
   ·exact e2
   ·have:=k j (Wq.2 ⟨by omega,by omega⟩);rw[e]at this;cases this
 ·intro e z hz;obtain⟨h0,h1⟩:=Wq.1 hz;obtain⟨i,rfl⟩:=Int.eq_ofNat_of_zero_le h0;exact hp i (by omega)
def onF(a:Aut)(s:Int)(j:Nat):List Prd:=((a.mv.take j).filter fun m=>decide (m.src=s)).map (·.on)
theorem f0c(a:Aut)(s:Int):onF a s 0=[]:=by simp[onF]
theorem g0t(a:Aut)(s:Int){j:Nat}(h:j<a.mv.length):onF a s (j+1)=onF a s j++(if a.mv[j].src=s then [a.mv[j].on]else []):=by
 unfold onF;rw[Nw h,yU]
 congr 1
 split<;>rfl
theorem x1s(a:Aut)(s:Int):onF a s a.mv.length=Ps a s none:=by unfold onF;rw[yF];rfl
theorem y1l(a:Aut)(s:Int)(j:Nat):(onF a s j).length≤a.mv.length:=by unfold onF;rw[zY];exact c1s a s j
theorem q19(y:Option Sy):c0p y= .tup [.agg [.i (y.getD ⟨0,0⟩).ty,.i (y.getD ⟨0,0⟩).num],.bool y.isSome]:=by cases y<;>rfl
attribute [local irreducible] q1w Lh Cd onF
theorem Ns(a:Aut)(ha:OkA a):PC Tryz.prog 134 [encA a] (fun r=>r= .bool (Gk a)):=by
 refine Qh tOk Tryz.func134 rfl Tryz.results134 rfl (by simp[Tryz.ntmps134]) ?_;rw[Tryz.ntmps134];simp only[Qe];have zi:=ha.fin;have zj:=ha.mvs;have hd:q1w a=(Lp a,0):=by unfold q1w;rw[if_pos ((I3 a).2 ha)]
 have cD:=j1i a;rw[hd]at cD;simp only[encA]at cD ⊢;have hL:=fun k:Int=>Xp a.types.toNat (by have:=ha.types;omega) [] (Ps a k none) (fun p h=>by cases h) (fun p hp=>by
  obtain⟨m,hm,rfl⟩:=zL.1 hp;exact(ha.mv m (E5.1 hm).1).on) (Cd a k none) (Cv ha (Y8.2 (.inl rfl)))
 have zk:((a.types.toNat:Nat):Int)=a.types:=by have:=ha.types;omega
 simp only[zk,q19]at hL;have zl:∀k,Zz a k=(Lh (Cd a k none)).isSome:=fun _=>rfl;have z8:=x1s a;have zm:Gk a=(Lp a && (Wo a.fin.length).all fun s=> !Zz a s):=rfl;rw[zm];have zn:=fun k j (h:j<a.mv.length)=>g0t a k h;have zo:=fun k j=>y1l a k j;have hz:=f0c a;repeat first|(refine r_ ?_;simp)|refine q_ ?_
 refine Qc rfl rfl (by simp) (cD) rfl ?_;rintro _ rfl;simp;repeat first|(refine r_ ?_;simp)|refine q_ ?_
 cases hsg:Lp a with
 |false=>
  repeat first|(refine r_ ?_;simp)|refine q_ ?_
  refine Qa rfl (fun _=> ?_) (fun h=>by simp at h);repeat (first|(refine r_ ?_;simp)|refine q_ ?_)
 |true=>
  repeat first|(refine r_ ?_;simp)|refine q_ ?_
  refine Qa rfl (fun h=>by simp at h) (fun _=> ?_);repeat first|(refine r_ ?_;simp)|refine q_ ?_
  refine Ql (Qb (sl':=[(1,.vptr 0 0),(24,.i a.fin.length),(25,.i (0:Nat))]) ?_ (by simp));refine Qn (P:=Tryz.prog) (F:=fun(u:Nat×List AObj)=>⟨[(1,.vptr 0 0),(24,.i a.fin.length),(25,.i u.1)],u.2⟩)
   (fun u=>u.1≤a.fin.length∧(∀i:Nat,i<u.1→(!Zz a i)=true)∧u.2[0]? =some (.vars (Qo a))) (fun u=>a.fin.length - u.1) ?_ (0,_) ⟨xG _,fun i h=>absurd h (ta _),rfl⟩
  rintro⟨k,G⟩ ⟨hk,hI,g0⟩ ih;simp only at hk hI g0 ih ⊢;repeat first|(refine r_ ?_;simp)|refine q_ ?_
  refine Qa rfl (fun zp=> ?_) (fun zq=> ?_)
  ·have zr:k<a.fin.length:=by simpa using zp
   have hw:IntKind.i64.wrap ((k:Int)+1)=k+1:=wrap_i64 _ (by omega) (by omega);have zt:=zn k;have zu:=zo k;have zv:=hL k;repeat first|(refine r_ ?_;simp[g0])|refine q_ ?_
   refine Wm 6 70 1 rfl ?_;simp;have hst:=SL.start G 70 1;refine Ql (Qb (sl':=[(1,.vptr 0 0),(5,.i k),(6,.sl G.length 1 0 (onF a k 0).length),(24,.i a.fin.length),(25,.i k),(29,.list (a.mv.map encMv)),(30,.i a.mv.length),(31,.i (0:Nat))]) ?_ (by simp[hz]));refine Qn (P:=Tryz.prog) (F:=fun(u:Nat×Nat×List AObj)=>⟨[(1,.vptr 0 0),(5,.i k),(6,.sl u.2.1 1 0 (onF a k u.1).length),(24,.i a.fin.length),(25,.i k),(29,.list (a.mv.map encMv)),(30,.i a.mv.length),(31,.i u.1)],u.2.2⟩)
    (fun u=>u.1≤a.mv.length∧SL G u.2.2 u.2.1 70 1 ((onF a k u.1).map encP)) (fun u=>a.mv.length - u.1) ?_ (0,G.length,_) ⟨xG _,by rw[hz];simpa using hst⟩
   rintro⟨j,q,E⟩ ⟨hj,g⟩ ih2;simp only at hj g ih2 ⊢;have zw:=zu j;repeat first|(refine r_ ?_;simp)|refine q_ ?_
   refine Qa rfl (fun za=> ?_) (fun zb=> ?_)
   ·have z1:j<a.mv.length:=by simpa using za
    have ze:IntKind.i64.wrap ((j:Int)+1)=j+1:=wrap_i64 _ (by omega) (by omega);have zx:=zt j z1;have z6:=fun q' G'=>ih2 (j+1,q',G');simp only[zx]at z6;have zf:(a.mv.map encMv)[j]? =some (encMv a.mv[j]):=by simp[z1]
    have zg:∀hh,(a.mv.map encMv)[j]'hh=encMv a.mv[j]:=fun hh=>by simp
    generalize a.mv[j]=m at *;generalize onF a k j=P at *
    have z7:(P.map encP).length=P.length:=by simp
    simp only[encMv]at zf zg;repeat first|(refine r_ ?_;simp[zf,zg,z1])|refine q_ ?_
    refine Qa rfl (fun h=> ?_) (fun h=> ?_)
    ·have e:m.src=k:=by simpa using h
     rw[if_pos e]at z6;repeat first|(refine r_ ?_;simp)|refine q_ ?_
     refine Qm tOk rfl rfl T87 rfl T70 rfl (by decide) (by decide) rfl rfl rfl ?_;simp[Qd g.arr,Qr g.arr,z7];refine⟨by simp[Rl,Qd g.arr,Qr g.arr,z7]<;>omega,?_⟩;repeat first|(refine r_ ?_;simp[ze])|refine q_ ?_
     refine Qb (sl':=[(1,.vptr 0 0),(5,.i k),(6,.sl (E.length+2) 1 0 (P++[m.on]).length),(24,.i a.fin.length),(25,.i k),(29,.list (a.mv.map encMv)),(30,.i a.mv.length),(31,.i (j+1:Nat))]) ?_ (by simp);have:=z6 (E.length+2) _ ⟨by omega,g.put [AObj.vars [.i m.src,.i m.dst,.list (m.on.map encL)],AObj.arr 70 1 [encP m.on]] ((P++[m.on]).map encP) rfl⟩ (by omega);simpa[encP]using this
    ·have e:m.src≠k:=by simpa using h
     rw[if_neg e,xR]at z6;repeat first|(refine r_ ?_;simp[ze])|refine q_ ?_
     refine Qb (sl':=[(1,.vptr 0 0),(5,.i k),(6,.sl q 1 0 P.length),(24,.i a.fin.length),(25,.i k),(29,.list (a.mv.map encMv)),(30,.i a.mv.length),(31,.i (j+1:Nat))]) ?_ (by simp);exact z6 q _ ⟨by omega,g.add _⟩ (by omega)
   ·have zy:j=a.mv.length:=by simp at zb;omega
    subst zy;rw[z8]at g zw ⊢;have e0:=g.kp g0;have z7:((Ps a k none).map encP).length=(Ps a k none).length:=by simp
    have zc:((Ps a k none).map encP).take (Ps a k none).length=(Ps a k none).map encP:=zS (by simp);have zh:=zl k;generalize Lh (Cd a k none)=Y at *;generalize Ps a k none=P at *
    repeat first|(refine r_ ?_;simp[e0])|refine q_ ?_
    refine Us rfl rfl (by first|(simp[g.arr,zc,z7];done)|(simp[g.arr,zc,z7];rfl)) (zv) rfl ?_;rintro _ rfl;refine⟨by first|simp|rfl|trivial,?_⟩;simp[g.arr,zc,z7];cases Y with
    |some y=>
     have hf:(Wo a.fin.length).all (fun s=> !Zz a s)=false:=by rw[Nr (j:=k) (by omega) hI (.inr (by rw[zh];rfl))];simp;omega
     rw[hf];repeat first|(refine r_ ?_;simp)|refine q_ ?_
     refine Qa rfl (fun _=> ?_) (fun h=>by simp at h);repeat (first|(refine r_ ?_;simp)|refine q_ ?_)
    |none=>
     repeat first|(refine r_ ?_;simp)|refine q_ ?_
     refine Qa rfl (fun h=>by simp at h) (fun _=> ?_);repeat first|(refine r_ ?_;simp[hw])|refine q_ ?_
     refine Qb (sl':=[(1,.vptr 0 0),(24,.i a.fin.length),(25,.i (k+1:Nat))]) ?_ (by simp);refine ih (k+1,_) ⟨by omega,fun i hi=> ?_,Qd e0 _⟩ (by omega);by_cases e:i=k
     ·subst e;rw[zh];rfl
     ·exact hI i (by omega)
  ·have zd:k=a.fin.length:=by simp at zq;omega
   subst zd;have hf:(Wo a.fin.length).all (fun s=> !Zz a s)=true:=by rw[Nr (zI _) hI (.inl rfl)];simp
   rw[hf];repeat first|(refine r_ ?_;simp)|refine q_ ?_
attribute [local irreducible] Wv Gk
theorem Hu(a b:Aut):PC Tryz.prog 69 [encA a,encA b] (fun r=>r= .i (R0 a b)):=by
 refine Qh tOk Tryz.func69 rfl Tryz.results69 rfl (by simp[Tryz.ntmps69]) ?_;rw[Tryz.ntmps69];simp only[Qe];obtain⟨R,hR⟩:∃R,R0 a b=R:=⟨_,rfl⟩
 rw[hR];rw[Mw]at hR;have cB:=By a b;have z6:Wv a b=0→OkA a∧OkA b:=fun h=>⟨(Ep.1 h).1,(Ep.1 h).2.1⟩
 simp only[encA]at cB ⊢;repeat first|(refine r_ ?_;simp)|refine q_ ?_
 refine Qc rfl rfl (by simp) (cB) rfl ?_;rintro _ rfl;simp;repeat first|(refine r_ ?_;simp)|refine q_ ?_
 refine Qa rfl (fun h=> ?_) (fun h=> ?_)
 ·repeat first|(refine r_ ?_;simp)|refine q_ ?_
  have h':Wv a b≠0:=by simpa using h
  rw[if_pos h']at hR;exact hR
 have h':¬Wv a b≠0:=by simpa using h
 rw[if_neg h']at hR;obtain⟨ha,hb⟩:=z6 (by simpa using h);have cF:=Ns a ha;have cG:=Ns b hb;simp only[encA]at cF cG;repeat first|(refine r_ ?_;simp)|refine q_ ?_
 refine Qc rfl rfl (by simp) (cF) rfl ?_;rintro _ rfl;simp;cases z1:Gk a with
 |true=>
  repeat first|(refine r_ ?_;simp)|refine q_ ?_
  refine Qc rfl rfl (by simp) (cG) rfl ?_;rintro _ rfl;simp;cases hfb:Gk b with
  |true=>
   repeat first|(refine r_ ?_;simp)|refine q_ ?_
   refine Qa rfl (fun h=>by simp at h) (fun _=> ?_);repeat first|(refine r_ ?_;simp)|refine q_ ?_
   rw[←hR,z1,hfb];rfl
  |false=>
   repeat first|(refine r_ ?_;simp)|refine q_ ?_
   refine Qa rfl (fun _=> ?_) (fun h=>by simp at h);repeat first|(refine r_ ?_;simp)|refine q_ ?_
   rw[←hR,z1,hfb];rfl
 |false=>
  repeat first|(refine r_ ?_;simp)|refine q_ ?_
  refine Wk rfl rfl ?_;simp;repeat first|(refine r_ ?_;simp)|refine q_ ?_
  refine Qa rfl (fun _=> ?_) (fun h=>by simp at h);repeat first|(refine r_ ?_;simp)|refine q_ ?_
  rw[←hR,if_pos (.inl z1)]
theorem X0(a:Aut)(s:Int)(hs:inD a s):PC Tryz.prog 127 [encA a,.i s] (fun r=>r= .bool (Bs a s)):=by
 refine Qh tOk Tryz.func127 rfl Tryz.results127 rfl (by simp[Tryz.ntmps127]) ?_;rw[Tryz.ntmps127];simp only[Qe];simp only[encA];unfold Bs;by_cases h1:s= -1
 ·subst h1;repeat first|(refine r_ ?_;simp)|refine q_ ?_
 ·have hr:inS a s:=hs.resolve_left h1;obtain⟨k,rfl⟩:∃k:Nat,s=k:=⟨s.toNat,(u1h hr).2.symm⟩
  have hk:k<a.fin.length:=by have:=hr.2;omega
  have z1:((k:Int)== -1)=false:=by simp
  have z6:a.fin.getD k false=a.fin[k]:=by simp[yP,hk]
  repeat first|(refine r_ ?_;simp[z1,hk])|refine q_ ?_
end Go.Abs
