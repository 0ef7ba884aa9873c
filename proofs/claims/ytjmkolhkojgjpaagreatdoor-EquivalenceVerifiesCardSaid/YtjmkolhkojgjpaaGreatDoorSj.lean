/- Part Sj of the proof: an abstract machine over the model, and what the functions of the program hand back in its terms. No condition. -/
import Derived.Test.YtjmkolhkojgjpaaGreatDoorSd
import Derived.Test.YtjmkolhkojgjpaaGreatDoorSh
import Derived.Test.YtjmkolhkojgjpaaGreatDoorSc
import Derived.Test.YtjmkolhkojgjpaaGreatDoorSe
import Derived.Test.YtjmkolhkojgjpaaGreatDoorSi
import Derived.Test.YtjmkolhkojgjpaaGreatDoorSg
import Derived.Shelf.SlGeneric
import Derived.Ground.SlsfProg
import Derived.Shelf.SlSortCmp.WholeK
import Derived.Test.YtjmkolhkojgjpaaGreatDoorProg
import Derived.DeepKeys4
set_option linter.all false
open List renaming take_succ_eq_append_getElem→zJ,flatten_append→uO,append_nil→xQ,take_append_drop→xM,length_append→zW,take_length→zX,getElem?_append_right→zC,take_of_length_le→zM,range→yD,length_pos_iff→ub,pairwise_iff_getElem→yC,mem_map→zN,getElem?_map→zQ,getElem?_eq_some_iff→zA,getElem?_eq_getElem→zF,getElem?_append_left→zE,length_filter_le→vE,mem_of_getElem?→zD,getElem_eq_iff→xF,append_assoc→xX,mem_append→zO,set_append_right→vU,getElem?_set_self→zH,getElem?_set_ne→zB,length_map→zV,length_eq_zero_iff→uz
open Bool renaming or_eq_true→ws,and_eq_true→zR,not_eq_true→up
open Array renaming getElem?_append_left→yF,getElem?_modify→wQ
open Nat renaming zero_le→xE,le_trans→yO,succ_mul→uG,mul_le_mul→vM,succ_le_succ→th
open Option renaming map_eq_some_iff→zL,map_some→ww
set_option maxHeartbeats 16000000
set_option linter.unusedSimpArgs false
set_option maxRecDepth 100000
namespace Go.Abs
open Go Go.Proofs
theorem c0o(H:List AObj)(n:Nat)(h0:0<n)(hn:n≤100000):FC Tryz.prog 234 [.nils,.i n] H
  (fun r H'=>r= .sl H.length 1 0 0∧H'=H++[.arr 70 1 []]):=by
 have z6:¬((n:Int)<0):=by omega
 have hw:IntKind.i64.wrap (n:Int)=n:=wrap_i64 _ (by omega) (by omega);refine Ef tOk Tryz.func234 rfl Tryz.results234 rfl (by simp[Tryz.ntmps234]) ?_;rw[Tryz.ntmps234];simp only[Qe];repeat first|(refine r_ ?_;simp)|refine q_ ?_
 refine Qa rfl (fun h=> ?_) (fun h=> ?_)
 ·simp[z6]at h
 have z1:IntKind.i64.wrap 0=0:=by decide
 repeat first|(refine r_ ?_;simp[hw])|refine q_ ?_
 refine Ih tOk rfl rfl T87 rfl rfl rfl ?_;simp[hw,z1];repeat first|(refine r_ ?_;simp[hw,z1])|refine q_ ?_
 refine Qa rfl (fun h2=> ?_) (fun h2=> ?_)
 ·repeat first|(refine r_ ?_;simp[hw,z1])|refine q_ ?_
  refine Ih tOk rfl rfl T87 rfl rfl rfl ?_;simp[hw,z1];refine Oy tOk rfl rfl T87 rfl T3 rfl T70 rfl (by decide) rfl (n:=n) rfl h0 (by simp;omega) (by omega) (.agg [.nils]) rfl rfl ?_;simp;refine F0 H.length 0 (v1l H _ []) ?_;simp;repeat first|(refine r_ ?_;simp)|refine q_ ?_
 ·simp at h2;omega
theorem x0u(H:List AObj):FC Tryz.prog 234 [.nils,.i 0] H (fun r H'=>r= .nils∧H'=H):=by
 refine Ef tOk Tryz.func234 rfl Tryz.results234 rfl (by simp[Tryz.ntmps234]) ?_;rw[Tryz.ntmps234];simp only[Qe];have z1:IntKind.i64.wrap 0=0:=by decide
 repeat first|(refine r_ ?_;simp)|refine q_ ?_
 refine Qs rfl ?_;simp;repeat first|(refine r_ ?_;simp[z1])|refine q_ ?_
 refine Ih tOk rfl rfl T87 rfl rfl rfl ?_;simp[z1];repeat first|(refine r_ ?_;simp[z1])|refine q_ ?_
 refine Qs rfl ?_;simp;repeat first|(refine r_ ?_;simp[z1])|refine q_ ?_
def Ur(ls:List (List Prd)):List Prd:=ls.flatten
theorem Fl(ls:List (List Prd))(j:Nat)(h:j<ls.length):Ur (ls.take (j+1))=Ur (ls.take j)++ls[j]:=by unfold Ur;rw[zJ h,uO];simp only[List.flatten_cons,List.flatten_nil,xQ]
theorem Bg(ls:List (List Prd))(j:Nat):(Ur (ls.take j)).length≤(Ur ls).length:=by
 conv=>rhs;rw[←xM j ls,Ur,uO,zW]
 rw[Ur];omega
theorem Zr(ls:List (List Prd)):Ur (ls.take ls.length)=Ur ls:=by rw[zX]
theorem Pr:Ur []=[]:=rfl
attribute [local irreducible] Ur
theorem Jn(ls:List (List Prd))(hl:ls.length≤1000)(ht:(Ur ls).length≤100000):PC Tryz.prog 194 [.list (ls.map LP)] (fun r=>r=LP (Ur ls)):=by
 refine Qh tOk Tryz.func194 rfl Tryz.results194 rfl (by simp[Tryz.ntmps194]) ?_;rw[Tryz.ntmps194];simp only[Qe];repeat first|(refine r_ ?_;simp)|refine q_ ?_
 refine Qr ls.length (fun _=>True) (fun j=>[(0,.list (ls.map LP)),(3,.i (Ur (ls.take j)).length),(9,.list (ls.map LP)),(10,.i ls.length),(11,.i j)]) (fun _=>[]) rfl (by simp) (by simp[Pr]) (by simp) (by simp) trivial ?_;intro j hj hI ih;repeat first|(refine r_ ?_;simp)|refine q_ ?_
 refine Qa rfl (fun z8=> ?_) (fun za=> ?_)
 ·have z1:j<ls.length:=by simpa using z8
  have hw:IntKind.i64.wrap ((j:Int)+1)=j+1:=wrap_i64 _ (by omega) (by omega);have zc:=Bg ls (j+1);have ih:=ih z1 trivial;have z7:(Ur (ls.take (j+1))).length=(Ur (ls.take j)).length+ls[j].length:=by rw[Fl ls j z1,zW]
  generalize (Ur (ls.take (j+1))).length=m at *;generalize (Ur (ls.take j)).length=k at *
  have zd:IntKind.i64.wrap ((k:Int)+ls[j].length)=m:=by rw[wrap_i64 _ (by omega) (by omega)];omega
  repeat first|(refine r_ ?_;simp[z1,zd])|refine q_ ?_
  refine Qa rfl (fun h2=> ?_) (fun h2=> ?_)
  ·simp at h2;omega
  repeat first|(refine r_ ?_;simp[hw,zd])|refine q_ ?_
  refine Qo _ ih rfl (by simp) ?_ (by simp) (by simp);simp
 have z6:j=ls.length:=by simp at za;omega
 subst z6;clear ih;obtain⟨n,hn⟩:∃n,(Ur ls).length=n:=⟨_,rfl⟩
 rw[Zr,hn];rcases Nat.eq_zero_or_pos n with h0|h0
 ·subst h0;repeat first|(refine r_ ?_;simp)|refine q_ ?_
  refine We rfl rfl (x0u []) rfl ?_;rintro r H' ⟨rfl,rfl⟩;simp;repeat first|(refine r_ ?_;simp)|refine q_ ?_
  refine Q6 6 70 1 rfl ?_;simp;refine Ql (Qb (sl':=[(6,.sl 0 1 0 (Ur (ls.take 0)).length),(25,.list (ls.map LP)),(26,.i ls.length),(27,.i 0)]) ?_ (by simp[Pr]));refine Qm (F:=fun(u:Nat×Nat×List AObj)=>⟨[(6,.sl u.2.1 1 0 (Ur (ls.take u.1)).length),(25,.list (ls.map LP)),(26,.i ls.length),(27,.i u.1)],u.2.2⟩)
   (fun u=>u.1≤ls.length∧u.2.2[u.2.1]? =some (.arr 70 1 ((Ur (ls.take u.1)).map encP))) (fun u=>ls.length - u.1) ?_ (0,0,[.arr 70 1 []]) ⟨by simp,by simp[Pr]⟩
  rintro⟨j,q,H2⟩ ⟨hj,g1⟩ ih;simp only at hj g1 ih ⊢;repeat first|(refine r_ ?_;simp)|refine q_ ?_
  refine Qa rfl (fun z8=> ?_) (fun za=> ?_)
  ·have z1:j<ls.length:=by simpa using z8
   have hw:IntKind.i64.wrap ((j:Int)+1)=j+1:=wrap_i64 _ (by omega) (by omega);have zc:=Bg ls (j+1);have hs:=Fl ls j z1;have z7:(Ur (ls.take (j+1))).length=(Ur (ls.take j)).length+ls[j].length:=by rw[hs,zW]
   have zb:=fun(q':Nat) (H':List AObj) (h:H'[q']? =some (.arr 70 1 ((Ur (ls.take j)++ls[j]).map encP)))=>ih (j+1,q',H') ⟨by simp;omega,by rw[hs];exact h⟩ (by simp;omega);clear ih;simp only[hs]at zb;rw[z7]at zc;clear hs z7;generalize Ur (ls.take j)=acc at *
   repeat first|(refine r_ ?_;simp[z1])|refine q_ ?_
   refine Qf tOk rfl rfl T87 rfl T70 rfl (by decide) (by decide) rfl rfl rfl ?_;simp[Qd g1,Qk g1,g1];refine⟨by simp[Wu,Qd g1,Qk g1,g1]<;>omega,?_⟩;repeat first|(refine r_ ?_;simp[hw])|refine q_ ?_
   exact Qb (sl':=[(6,.sl H2.length 1 0 (acc.length+ls[j].length)),(25,.list (ls.map LP)),(26,.i ls.length),(27,.i (j+1:Nat))]) (by
    have:=zb H2.length (H2.set q .dead++[.arr 70 1 ((acc++ls[j]).map encP)]) (by rw[zC (by simp)];simp);simpa using this) (by simp)
  ·have z6:j=ls.length:=by simp at za;omega
   subst z6;rw[Zr]at g1;rw[zX];repeat first|(refine r_ ?_;simp[g1])|refine q_ ?_
   rw[zM (by simp)]
 ·repeat first|(refine r_ ?_;simp)|refine q_ ?_
  refine We rfl rfl (c0o [] n h0 (by omega)) rfl ?_;rintro r H' ⟨rfl,rfl⟩;simp;repeat first|(refine r_ ?_;simp)|refine q_ ?_
  refine Ql (Qb (sl':=[(6,.sl 0 1 0 (Ur (ls.take 0)).length),(25,.list (ls.map LP)),(26,.i ls.length),(27,.i 0)]) ?_ (by simp[Pr]));refine Qm (F:=fun(u:Nat×Nat×List AObj)=>⟨[(6,.sl u.2.1 1 0 (Ur (ls.take u.1)).length),(25,.list (ls.map LP)),(26,.i ls.length),(27,.i u.1)],u.2.2⟩)
   (fun u=>u.1≤ls.length∧u.2.2[u.2.1]? =some (.arr 70 1 ((Ur (ls.take u.1)).map encP))) (fun u=>ls.length - u.1) ?_ (0,0,[.arr 70 1 []]) ⟨by simp,by simp[Pr]⟩
  rintro⟨j,q,H2⟩ ⟨hj,g1⟩ ih;simp only at hj g1 ih ⊢;repeat first|(refine r_ ?_;simp)|refine q_ ?_
  refine Qa rfl (fun z8=> ?_) (fun za=> ?_)
  ·have z1:j<ls.length:=by simpa using z8
   have hw:IntKind.i64.wrap ((j:Int)+1)=j+1:=wrap_i64 _ (by omega) (by omega);have zc:=Bg ls (j+1);have hs:=Fl ls j z1;have z7:(Ur (ls.take (j+1))).length=(Ur (ls.take j)).length+ls[j].length:=by rw[hs,zW]
   have zb:=fun(q':Nat) (H':List AObj) (h:H'[q']? =some (.arr 70 1 ((Ur (ls.take j)++ls[j]).map encP)))=>ih (j+1,q',H') ⟨by simp;omega,by rw[hs];exact h⟩ (by simp;omega);clear ih;simp only[hs]at zb;rw[z7]at zc;clear hs z7;generalize Ur (ls.take j)=acc at *
   repeat first|(refine r_ ?_;simp[z1])|refine q_ ?_
   refine Qf tOk rfl rfl T87 rfl T70 rfl (by decide) (by decide) rfl rfl rfl ?_;simp[Qd g1,Qk g1,g1];refine⟨by simp[Wu,Qd g1,Qk g1,g1]<;>omega,?_⟩;repeat first|(refine r_ ?_;simp[hw])|refine q_ ?_
   exact Qb (sl':=[(6,.sl H2.length 1 0 (acc.length+ls[j].length)),(25,.list (ls.map LP)),(26,.i ls.length),(27,.i (j+1:Nat))]) (by
    have:=zb H2.length (H2.set q .dead++[.arr 70 1 ((acc++ls[j]).map encP)]) (by rw[zC (by simp)];simp);simpa using this) (by simp)
  ·have z6:j=ls.length:=by simp at za;omega
   subst z6;rw[Zr]at g1;rw[zX];repeat first|(refine r_ ?_;simp[g1])|refine q_ ?_
   rw[zM (by simp)]
end Go.Abs
namespace Go.Abs
open Go Go.Proofs Go.Maps Go.RowKit
attribute [local irreducible] P9 Lc Wj z2e x1a
end Go.Abs
namespace Go.Abs
open Go Go.Proofs Go.Maps Go.RowKit
attribute [simp] x2m y25 x2k x2p T66 T41
def w2o(a:Aut)(j k:Nat):List Mv:=(a.mv.take j).filter fun m=>decide (m.src=(k:Int)) && !Wk m.on
def x1b(l:List Mv):AV:= .list (l.map encMv)
def q2x(a:Aut):List AV:=(yD a.fin.length).map fun k:Nat=>x1b (Mn a k)
def c0g(a:Aut):List AV:=[.i a.types,.list (a.fin.map .bool),.list (a.mv.map encMv),.list (q2x a)]
def z2s(a:Aut):AV:= .agg (c0g a)
def j1m(p:Nat)(xs:List Mv):AV:=if xs=[]then .nils else .sl p 3 0 xs.length
def q2r(n:Nat)(L:Nat→Nat)(rs:Nat→List Mv):List AV:=(yD n).map fun k=>j1m (L k) (rs k)
structure MR (K:List AObj) (n o:Nat) (rs:Nat→List Mv) (L:Nat→Nat) (H:List AObj):Prop where
 out:H[o]? =some (.va 23 1 (q2r n L rs))
 leaf:∀k,k<n→rs k≠[]→H[L k]? =some (.arr 73 3 ((rs k).map encMv))
 inj:∀k k',k<n→k'<n→rs k≠[]→rs k'≠[]→L k=L k'→k=k'
 ne:∀k,k<n→rs k≠[]→L k≠o
 geo:K.length≤o
 geL:∀k,k<n→rs k≠[]→K.length≤L k
 keep:∀j,j<K.length→H[j]? =K[j]?
def x25(n:Nat)(L:Nat→Nat)(rs:Nat→List Mv)(k:Nat):List AV:=(yD n).map fun i=>if i<k∧rs i≠[]then x1b (rs i)else j1m (L i) (rs i)
section
variable {P:Program} [Env P] {nt kk:Nat} {cd:Code} {Q:Exit→AS→Prop}
end
attribute [local irreducible] w2o Ce Mn
end Go.Abs
namespace Go.Abs
open Go Go.Proofs Go.Maps Go.RowKit
abbrev Stp:=Sy×(Int×Int)
def Ek(e:Stp):AV:= .agg [.i e.1.ty,.i e.1.num,.i e.2.1,.i e.2.2]
def z2l(b:Aut)(q:Int)(m:Mv)(j:Nat):List Stp:=((Mn b q).take j).filterMap fun n=>(Ce m.on n.on).map fun x=>(x,(m.dst,n.dst))
def q25(a b:Aut)(s:Int×Int)(i:Nat):List Stp:=((Mn a s.1).take i).flatMap fun m=>z2l b s.2 m (Mn b s.2).length
attribute [local irreducible] Mn Ce z2l q25 q2x Xk
end Go.Abs
namespace Go.Abs
open Go Go.Proofs Go.Maps Go.RowKit
attribute [simp] z2z z2p
def O0(a b:Int):Int:=if a<b then -1 else if b<a then 1 else 0
def orE(x y:Int):Int:=if x≠0 then x else y
theorem j0y(a:Int):PC Tryz.prog 200 [.i a] (fun r=>r= .bool false):=by refine Qh tOk Tryz.func200 rfl Tryz.results200 rfl (by simp[Tryz.ntmps200]) ?_;rw[Tryz.ntmps200];simp only[Qe];repeat first|(refine r_ ?_;simp)|refine q_ ?_
theorem Ky(a b:Int):PC Tryz.prog 133 [.i a,.i b] (fun r=>r= .i (O0 a b)):=by
 refine Qh tOk Tryz.func133 rfl Tryz.results133 rfl (by simp[Tryz.ntmps133]) ?_;rw[Tryz.ntmps133];simp only[Qe];repeat first|(refine r_ ?_;simp)|refine q_ ?_
 refine Qc rfl rfl (by simp) (j0y a) rfl ?_;rintro _ rfl;simp;repeat first|(refine r_ ?_;simp)|refine q_ ?_
 refine Qc rfl rfl (by simp) (j0y b) rfl ?_;rintro _ rfl;simp;repeat first|(refine r_ ?_;simp)|refine q_ ?_
 refine Qs rfl ?_;repeat first|(refine r_ ?_;simp)|refine q_ ?_
 refine Qs rfl ?_;repeat first|(refine r_ ?_;simp)|refine q_ ?_
 refine Qa rfl (fun h=> ?_) (fun h=> ?_)
 ·repeat first|(refine r_ ?_;simp)|refine q_ ?_
  rw[O0,if_pos (by simpa using h)]
 repeat first|(refine r_ ?_;simp)|refine q_ ?_
 refine Qa rfl (fun h1=> ?_) (fun h1=> ?_)
 ·repeat first|(refine r_ ?_;simp)|refine q_ ?_
  rw[O0,if_neg (by simpa using h),if_pos (by simpa using h1)]
 ·repeat first|(refine r_ ?_;simp)|refine q_ ?_
  rw[O0,if_neg (by simpa using h),if_neg (by simpa using h1)]
theorem y1i(x y:Int):PC Tryz.prog 132 [LI [x,y]] (fun r=>r= .i (orE x y)):=by
 refine Qh tOk Tryz.func132 rfl Tryz.results132 rfl (by simp[Tryz.ntmps132]) ?_;rw[Tryz.ntmps132];simp only[Qe];have w1:IntKind.i64.wrap 1=1:=by decide
 have w2:IntKind.i64.wrap 2=2:=by decide
 repeat first|(refine r_ ?_;simp)|refine q_ ?_
 refine Qr 2 (fun j=>j=0∨x=0∧(j=1∨y=0)) (fun j=>[(3,.i 0),(6,LI [x,y]),(7,.i (2:Nat)),(8,.i j)]) (fun _=>[]) rfl (by simp) (by simp) (by simp) (by simp) (.inl rfl) ?_;intro j hj hI ih;repeat first|(refine r_ ?_;simp)|refine q_ ?_
 refine Qa rfl (fun z8=> ?_) (fun za=> ?_)
 ·have z1:j<2:=by simp at z8;omega
  have hw:IntKind.i64.wrap ((j:Int)+1)=j+1:=wrap_i64 _ (by omega) (by omega);obtain rfl|rfl:j=0∨j=1:=by omega
  ·repeat first|(refine r_ ?_;simp)|refine q_ ?_
   refine Qa rfl (fun h=> ?_) (fun h=> ?_)
   ·repeat first|(refine r_ ?_;simp)|refine q_ ?_
    rw[orE,if_pos (by simpa using h)]
   ·have h0:x=0:=by simpa using h
    repeat first|(refine r_ ?_;simp[w1])|refine q_ ?_
    refine Qo _ (ih z1 (.inr ⟨h0,.inl rfl⟩)) rfl (by simp) ?_ (by simp) (by simp);simp
  ·have hx:x=0:=by rcases hI with h|h;exact absurd h (by decide);exact h.1
   repeat first|(refine r_ ?_;simp)|refine q_ ?_
   refine Qa rfl (fun h=> ?_) (fun h=> ?_)
   ·repeat first|(refine r_ ?_;simp)|refine q_ ?_
    rw[orE,if_neg (by simpa using hx)]
   ·have h0:y=0:=by simpa using h
    repeat first|(refine r_ ?_;simp[w2])|refine q_ ?_
    refine Qo _ (ih z1 (.inr ⟨hx,.inr h0⟩)) rfl (by simp) ?_ (by simp) (by simp);simp
 ·have z6:j=2:=by simp at za;omega
  subst z6;have z7:x=0∧y=0:=by
   rcases hI with h|⟨h1,h2⟩
   ·exact absurd h (by decide)
   ·exact⟨h1,h2.elim (fun h=>absurd h (by decide)) id⟩
  repeat first|(refine r_ ?_;simp)|refine q_ ?_
  rw[orE,z7.1,z7.2];rfl
def c1k(x y:Sy):Int:=orE (O0 x.ty y.ty) (O0 x.num y.num)
def Bv(x y:Stp):Int:=c1k x.1 y.1
def Nc(x y:Int×Int):Int:=orE (O0 x.1 y.1) (O0 x.2 y.2)
def j1f(x y:Int×Int):Bool:=decide (x.1<y.1) || (decide (x.1=y.1) && decide (x.2<y.2))
theorem y13(a b c d:Int):decide (orE (O0 a b) (O0 c d)<0)=(decide (a<b) || (decide (a=b) && decide (c<d))):=by
 rw[Bool.eq_iff_iff];simp only[decide_eq_true_eq,ws,zR];unfold orE O0;by_cases h1:a<b
 ·simp[h1]
 ·by_cases h2:b<a
  ·rw[if_neg h1,if_pos h2];simp;omega
  ·rw[if_neg h1,if_neg h2];have h3:a=b:=by omega
   simp[h3];by_cases h4:c<d
   ·simp[h4]
   ·by_cases h5:d<c
    ·simp[h4,h5]
    ·simp[h4,h5]
theorem z01(x y:Sy):PC Tryz.prog 197 [encSy x,encSy y] (fun r=>r= .i (c1k x y)):=by
 refine Qh tOk Tryz.func197 rfl Tryz.results197 rfl (by simp[Tryz.ntmps197]) ?_;rw[Tryz.ntmps197];simp only[Qe];simp only[encSy];repeat first|(refine r_ ?_;simp)|refine q_ ?_
 refine Qj tOk mixed [] (.val 0 (.val 1 (.val 2 (.val 3 (.val 5 (.val 6 (.val 7 (.val 8 (.one 4 (.one 9 (.one 10 (.one 11 (.val 12 (.done)))))))))))))) rfl (by kernel_rfl) ?_;simp;refine Qc rfl rfl (by simp) (Ky x.ty y.ty) rfl ?_;rintro _ rfl;simp;refine Qc rfl rfl (by simp) (Ky x.num y.num) rfl ?_;rintro _ rfl;simp;refine Yg rfl rfl (by first|(simp;done)|(simp;rfl)) (y1i (O0 x.ty y.ty) (O0 x.num y.num)) rfl ?_;rintro _ rfl;refine⟨by first|simp|rfl|trivial,?_⟩;simp;repeat first|(refine r_ ?_;simp)|refine q_ ?_
 rfl
theorem w1r(x y:Stp):PC Tryz.prog 196 [Ek x,Ek y] (fun r=>r= .i (Bv x y)):=by
 refine Qh tOk Tryz.func196 rfl Tryz.results196 rfl (by simp[Tryz.ntmps196]) ?_;rw[Tryz.ntmps196];simp only[Qe];simp only[Ek];repeat first|(refine r_ ?_;simp)|refine q_ ?_
 refine Qc rfl rfl (by simp) (z01 x.1 y.1) rfl ?_;rintro _ rfl;simp;repeat first|(refine r_ ?_;simp)|refine q_ ?_
 rfl
theorem d01(x y:Int×Int):PC Tryz.prog 131 [pqr x,pqr y] (fun r=>r= .i (Nc x y)):=by
 refine Qh tOk Tryz.func131 rfl Tryz.results131 rfl (by simp[Tryz.ntmps131]) ?_;rw[Tryz.ntmps131];simp only[Qe];simp only[pqr];repeat first|(refine r_ ?_;simp)|refine q_ ?_
 refine Qj tOk mixed [] (.val 0 (.val 1 (.val 2 (.val 3 (.val 5 (.val 6 (.val 7 (.val 8 (.one 4 (.one 9 (.one 10 (.one 11 (.val 12 (.done)))))))))))))) rfl (by kernel_rfl) ?_;simp;refine Qc rfl rfl (by simp) (Ky x.1 y.1) rfl ?_;rintro _ rfl;simp;refine Qc rfl rfl (by simp) (Ky x.2 y.2) rfl ?_;rintro _ rfl;simp;refine Yg rfl rfl (by first|(simp;done)|(simp;rfl)) (y1i (O0 x.1 y.1) (O0 x.2 y.2)) rfl ?_;rintro _ rfl;refine⟨by first|simp|rfl|trivial,?_⟩;simp;repeat first|(refine r_ ?_;simp)|refine q_ ?_
 rfl
end Go.Abs
namespace Go.Abs
open Go Go.Proofs Go.Maps Go.RowKit
open Go.Shelf Go.Lib Go.Sort in
theorem q0s(x y:Stp):ltOf Bv x y=Be x.1 y.1:=y13 ..
open Go.Shelf Go.Lib Go.Sort in
theorem Mk(x y:Int×Int):ltOf Nc x y=j1f x y:=y13 ..
theorem x1d{α:Type}(f g:α→Int):Go.Sort.SWO (fun x y=>decide (f x<f y) || (decide (f x=f y) && decide (g x<g y))) where
 irrefl x:=by simp
 trans x y z h1 h2:=by simp only[ws,zR,decide_eq_true_eq]at *;omega
 ntrans x y z h1 h2:=by rw[←up]at *;simp only[ws,zR,decide_eq_true_eq]at *;omega
open Go.Shelf Go.Lib Go.Sort in
theorem x0p:SWO (ltOf Bv):=by
 have h:ltOf Bv=fun x y:Stp=>decide (x.1.ty<y.1.ty) || (decide (x.1.ty=y.1.ty) && decide (x.1.num<y.1.num)):=by funext x y;exact q0s x y
 rw[h];exact x1d (fun x:Stp=>x.1.ty) (fun x:Stp=>x.1.num)
open Go.Shelf Go.Lib Go.Sort in
theorem f01:SWO (ltOf Nc):=by
 have h:ltOf Nc=fun x y:Int×Int=>decide (x.1<y.1) || (decide (x.1=y.1) && decide (x.2<y.2)):=by funext x y;exact Mk x y
 rw[h];exact x1d (fun x:Int×Int=>x.1) (fun x:Int×Int=>x.2)
end Go.Abs
/-
 DERIVED:THE SHELF's CONTRACTS AT THIS DUMP,IN PLAIN WORDS (tools/lay-plain.mjs out of 'TryzShelf.lean',which tools/lay-shelf.mjs wrote):THE SAME DECLARATIONS UNDER THE SAME NAMES:'import','namespace','open','def','theorem' AND NOTHING ELSE:no command of the shelf's:FOR A HAND-IN. Each laying:the table of numbers ('.._ren') and one theorem,a field a fact of the dump's own or the kernel's comparison;each contract:ONE APPLICATION.
-/
namespace Go.Proofs
open Go.Shelf
def Tryz.sortLd_ren:Go.Shelf.Ren:=⟨fun|6=>195|15=>199|14=>235|28=>244|29=>245|20=>283|21=>284|22=>285|23=>286|24=>287|25=>288|26=>289|27=>290|46=>313|47=>292|48=>293|49=>314|50=>315|57=>324|n=>n,fun|22=>245|24=>184|25=>252|3=>3|39=>189|0=>0|53=>255|55=>258|4=>4|46=>291|45=>290|50=>112|5=>5|9=>9|66=>327|70=>331|76=>349|77=>350|n=>n,fun|n=>n⟩
theorem Tryz.sortLd:Go.Proofs.SlLaysF0.n6 Tryz.prog Tryz.sortLd_ren:={
 mixed:=by kernel_rfl
 f6:=⟨Tryz.f195.name,by decide,Tryz.func195.trans (congrArg some (by kernel_rfl))⟩
 f14:=⟨Tryz.f235.name,by decide,Tryz.func235.trans (congrArg some (by kernel_rfl))⟩
 f15:=Tryz.func199.trans (congrArg some (by kernel_rfl))
 f20:=⟨Tryz.f283.name,by decide,Tryz.func283.trans (congrArg some (by kernel_rfl))⟩
 f21:=⟨Tryz.f284.name,by decide,Tryz.func284.trans (congrArg some (by kernel_rfl))⟩
 f22:=⟨Tryz.f285.name,by decide,Tryz.func285.trans (congrArg some (by kernel_rfl))⟩
 f23:=⟨Tryz.f286.name,by decide,Tryz.func286.trans (congrArg some (by kernel_rfl))⟩
 f24:=⟨Tryz.f287.name,by decide,Tryz.func287.trans (congrArg some (by kernel_rfl))⟩
 f25:=⟨Tryz.f288.name,by decide,Tryz.func288.trans (congrArg some (by kernel_rfl))⟩
 f26:=⟨Tryz.f289.name,by decide,Tryz.func289.trans (congrArg some (by kernel_rfl))⟩
 f27:=⟨Tryz.f290.name,by decide,Tryz.func290.trans (congrArg some (by kernel_rfl))⟩
 f28:=Tryz.func244.trans (congrArg some (by kernel_rfl))
 f29:=Tryz.func245.trans (congrArg some (by kernel_rfl))
 f46:=⟨Tryz.f313.name,by decide,Tryz.func313.trans (congrArg some (by kernel_rfl))⟩
 f47:=Tryz.func292.trans (congrArg some (by kernel_rfl))
 f48:=Tryz.func293.trans (congrArg some (by kernel_rfl))
 f49:=⟨Tryz.f314.name,by decide,Tryz.func314.trans (congrArg some (by kernel_rfl))⟩
 f50:=⟨Tryz.f315.name,by decide,Tryz.func315.trans (congrArg some (by kernel_rfl))⟩
 f57:=⟨Tryz.f324.name,by decide,Tryz.func324.trans (congrArg some (by kernel_rfl))⟩
 t0:=Tryz.underlying0
 a0:=Tryz.isAgg0
 z0:=Tryz.sizeOf0
 v0:=Tryz.zeroValue0
 t3:=Tryz.underlying3
 a3:=Tryz.isAgg3
 z3:=Tryz.sizeOf3
 v3:=Tryz.zeroValue3
 t4:=Tryz.underlying4
 a4:=Tryz.isAgg4
 z4:=Tryz.sizeOf4
 v4:=Tryz.zeroValue4
 t5:=Tryz.underlying5
 a5:=Tryz.isAgg5
 z5:=Tryz.sizeOf5
 v5:=Tryz.zeroValue5
 t9:=Tryz.underlying9
 a9:=Tryz.isAgg9
 z9:=Tryz.sizeOf9
 v9:=Tryz.zeroValue9
 t22:=Tryz.underlying245
 a22:=Tryz.isAgg245
 z22:=Tryz.sizeOf245
 v22:=Tryz.zeroValue245
 t25:=Tryz.underlying252
 a25:=Tryz.isAgg252
 z25:=Tryz.sizeOf252
 v25:=Tryz.zeroValue252
 t39:=Tryz.underlying189
 a39:=Tryz.isAgg189
 z39:=Tryz.sizeOf189
 v39:=Tryz.zeroValue189
 t45:=Tryz.underlying290
 a45:=Tryz.isAgg290
 z45:=Tryz.sizeOf290
 v45:=Tryz.zeroValue290
 t46:=Tryz.underlying291
 a46:=Tryz.isAgg291
 z46:=Tryz.sizeOf291
 v46:=Tryz.zeroValue291
 t50:=Tryz.underlying112
 a50:=Tryz.isAgg112
 z50:=Tryz.sizeOf112
 v50:=Tryz.zeroValue112
 t53:=Tryz.underlying255
 a53:=Tryz.isAgg255
 z53:=Tryz.sizeOf255
 v53:=Tryz.zeroValue255
 t55:=Tryz.underlying258
 a55:=Tryz.isAgg258
 z55:=Tryz.sizeOf258
 v55:=Tryz.zeroValue258
 t66:=Tryz.underlying327
 a66:=Tryz.isAgg327
 z66:=Tryz.sizeOf327
 v66:=Tryz.zeroValue327
 t70:=Tryz.underlying331
 a70:=Tryz.isAgg331
 z70:=Tryz.sizeOf331
 v70:=Tryz.zeroValue331
 t76:=Tryz.underlying349
 a76:=Tryz.isAgg349
 z76:=Tryz.sizeOf349
 v76:=Tryz.zeroValue349
 t77:=Tryz.underlying350
 a77:=Tryz.isAgg350
 z77:=Tryz.sizeOf350
 v77:=Tryz.zeroValue350 }
end Go.Proofs
namespace Go.Abs
open Go Go.Proofs Go.RowKit Go.Shelf Go.Lib Go.Sort
theorem Ix{w:World}{I:Nat→Prop}{v:Value}{k:IntKind}{n:Int}(h:PVR w I v (.int k n)):v= .int k n:=by cases h;rfl
def Pv(x:Stp):List Value:=[.int .i64 x.1.ty,.int .i64 x.1.num,.int .i64 x.2.1,.int .i64 x.2.2]
theorem q2v(x y:Stp):ltOf Bv x y=Be x.1 y.1:=q0s x y
theorem c1f{w:World}{I:Nat→Prop}{l:List (Stp)}{F:Array Value}(hR:RowW w I 4 (l.map Ek) F):flatK Pv 4 l.toArray=F:=by
 have z1:F.size=l.length * 4:=by have:=hR.size;simpa using this
 refine ext_get! (by simp[z1]) fun t ht=> ?_;have z6:t<l.length * 4:=by simpa using ht
 rw[get_flatK _ _ _ _ (by simpa using z6)];have hi:t / 4<l.length:=by omega
 rw[getElem!_pos l.toArray _ (by simpa using hi)];have hx:(l.map Ek)[t / 4]? =some (Ek l[t / 4]):=by simp[hi]
 have c0:=Ix (hR.cell _ _ hx 0 _ rfl);have c1:=Ix (hR.cell _ _ hx 1 _ rfl);have c2:=Ix (hR.cell _ _ hx 2 _ rfl);have c3:=Ix (hR.cell _ _ hx 3 _ rfl);have e0:l.toArray[t / 4]'(by simpa using hi)=l[t / 4]:=by simp
 rw[e0];have hm:t % 4=0∨t % 4=1∨t % 4=2∨t % 4=3:=by omega
 rcases hm with h|h|h|h<;>rw[h]
 ·have e1:t / 4 * 4+0=t:=by omega
  rw[e1]at c0;rw[c0];rfl
 ·have e1:t / 4 * 4+1=t:=by omega
  rw[e1]at c1;rw[c1];rfl
 ·have e1:t / 4 * 4+2=t:=by omega
  rw[e1]at c2;rw[c2];rfl
 ·have e1:t / 4 * 4+3=t:=by omega
  rw[e1]at c3;rw[c3];rfl
theorem g03(H:List AObj)(p:Nat)(l:List (Stp))(hp:H[p]? =some (.arr 184 4 (l.map Ek)))(hl:l.length≤100000000):
  FC Tryz.prog 195 [.sl p 4 0 l.length,.fn (.func 196) [] []] H
   (fun r H'=>r= .tup []∧∃l':List (Stp),l'.Perm l∧l'.Pairwise (fun x y=>Be y.1 x.1=false)∧H'=H.set p (.arr 184 4 (l'.map Ek))):=by
 refine(j0u (xs:=l.map Ek) (Yd Tryz.func195 rfl rfl) (by simp) hp [.func (.func 196) #[] #[]] (fun w I m vs a b=>V7 _ w I m _ vs a b) (fun z8=>∃l':List (Stp),l'.Perm l∧l'.Pairwise (fun x y=>Be y.1 x.1=false)∧z8=l'.map Ek) ?_ ?_).mono ?_
 ·intro w I b cap F hE hI zc hR hH hb hc;by_cases z6:l=[]
  ·subst z6;refine Calls.mono (AnyF.slices_SortFunc_none Tryz.sortLd (some ⟨b,0,none⟩) cap _ w) ?_;rintro e w' ⟨rfl,rfl⟩;refine⟨rfl,[],F,0,#[],⟨[],.refl _,.nil,rfl⟩,rfl,hR,?_⟩;rw[grow_empty];exact(putRow_self id w' b 0 F hH).symm
  ·have zd:0<l.length:=ub.2 z6;have eg:∀args w,(callFunc 196 args).run Tryz.prog w= .ok (.enter 196 args) w:=enters_of Tryz.func196 (by kernel_rfl) rfl;have ze:=c1f hR;have zf:HoldsK Pv 4 w b 0 l.toArray:=by unfold HoldsK;rw[ze];exact hH
   have z7:CmpLays Tryz.prog 196 #[] Pv 4 Bv b 0 l.toArray.size w:=fun q os dk hs x y=>by
    have hW:∀c,I c→(sortWorldK Pv 4 w b 0 q dk os).heap[c]? =w.heap[c]? :=fun c za=>by have zg:=hI c za;have zh:b≠c:=fun e=>zc (e▸za);simp only[sortWorldK,grow,putRowK,putRow,mapBlock,Sort.ahead];rw[yF (by simpa using zg),wQ,if_neg zh]
    have zb:∀z:Stp,PVR w I (.agg (Pv z).toArray) (Ek z):=fun z=>by
     refine .agg _ _ (by simp[Pv]) fun i v x' hv z1=> ?_
     match i,hv,z1 with
     |0,hv,z1=>simp[Pv]at hv z1;subst hv z1;exact .int _ _
     |1,hv,z1=>simp[Pv]at hv z1;subst hv z1;exact .int _ _
     |2,hv,z1=>simp[Pv]at hv z1;subst hv z1;exact .int _ _
     |3,hv,z1=>simp[Pv]at hv z1;subst hv z1;exact .int _ _
     |k+4,hv,z1=>simp[Pv]at hv
    refine(w1r x y).laid hE hI hW (by simp) fun i v x' hv z1=> ?_
    match i,hv,z1 with
    |0,hv,z1=>simp at hv z1;subst hv z1;exact zb x
    |1,hv,z1=>simp at hv z1;subst hv z1;exact zb y
   have:=AnyQ.slices_SortFunc Tryz.sortLd 4 Tryz.isAgg184 Tryz.sizeOf184 Pv (fun _=>rfl) (fun x v hv=>by simp[Pv]at hv;rcases hv with rfl|rfl|rfl|rfl<;>rfl) Bv x0p 196 #[] b 0 cap l.toArray w eg z7 zf hb (by simp;omega);rw[show(l.toArray).size=l.length by simp]at this;refine Calls.mono this ?_;rintro e w' ⟨rfl,d',n,os,h1,h2,rfl⟩;obtain⟨s1,_,s3⟩:=h1;have hs:d'.toList.length=l.length:=by simpa using s1
   refine⟨rfl,d'.toList.map Ek,flatK Pv 4 d',n,os,⟨d'.toList,?_,?_,rfl⟩,by simp[hs],⟨by simp,fun x hx=> ?_,fun i x hx j y hy=> ?_⟩,rfl⟩
   ·rw[show d'.extract 0 l.length=d' by simp[←hs],show l.toArray.extract 0 l.length=l.toArray by simp]at s3;simpa using s3
   ·refine yC.2 fun i j hi hj zi=> ?_;have:=h2 i j (xE _) zi (by omega);rw[q2v,getElem!_pos d' i (by simpa using hi),getElem!_pos d' j (by simpa using hj)]at this;simpa using this
   ·obtain⟨z,_,rfl⟩:=zN.1 hx;rfl
   ·rw[zQ]at hx;obtain⟨z,hz,rfl⟩:=zL.1 hx;obtain⟨hi,rfl⟩:=zA.1 hz;have hj:j<4:=(zA.1 hy).1;have zj:i<d'.size:=by simpa using hi
    rw[get_flatK _ _ _ _ (by omega)];rw[show(i * 4+j) / 4=i by omega,show(i * 4+j) % 4=j by omega];rw[getElem!_pos d' i zj]
    match j,hj,hy with
    |0,_,hy=>simp[Ek,AV.cells]at hy;subst hy;exact .int _ _
    |1,_,hy=>simp[Ek,AV.cells]at hy;subst hy;exact .int _ _
    |2,_,hy=>simp[Ek,AV.cells]at hy;subst hy;exact .int _ _
    |3,_,hy=>simp[Ek,AV.cells]at hy;subst hy;exact .int _ _
 ·rintro h;have z6:l=[]:=by
   cases l with
   |nil=>rfl
   |cons x r=>simp at h
  subst z6;exact⟨⟨[],.refl _,.nil,rfl⟩,fun w=>AnyF.slices_SortFunc_none Tryz.sortLd none 0 _ w⟩
 ·rintro r H' ⟨rfl,z8,⟨l',h1,h2,rfl⟩,rfl⟩;exact⟨rfl,l',h1,h2,rfl⟩
end Go.Abs
namespace Go.Abs
open Go Go.Proofs Go.Maps Go.RowKit
def kyP(s:Int×Int):AV:= .agg [.i s.1,.i s.2]
def okK(s:Int×Int):Prop:=(0≤s.1∧s.1≤1000000)∧(0≤s.2∧s.2≤1000000)
abbrev j1d:=List ((Int×Int)×Nat)
def kvN(near:j1d):List (AV×AV):=near.map fun e=>(kyP e.1,.i e.2)
def mpN(near:j1d):AObj:= .mp (kvN near)
structure NK (near:j1d):Prop where
 nd:(near.map (·.1)).Nodup
 ok:∀e∈near,okK e.1
section
variable {nt k:Nat} {S:AS} {ops:Array Oper} {o:Oper} {R:AS→Prop}
end
end Go.Abs
namespace Go.Abs
open Go Go.Proofs Go.Maps Go.RowKit
attribute [local irreducible] Mn Ce q2x Xk K5 lkN
def x2f(near:j1d)(d:Int)(es:List (Sy×(Int×Int))):Bool:=es.any fun e=>(lkN near e.2).isSome && decide (((lkN near e.2).getD 0:Nat)=d)
attribute [local irreducible] x2f
end Go.Abs
namespace Go.Abs
open Go Go.Proofs Go.Maps Go.RowKit
theorem k18{G K:List AObj}(h:∀i,i<G.length→K[i]? =G[i]?):∃E,K=G++E:=by
 refine⟨K.drop G.length,?_⟩;have hl:G.length≤K.length:=by
  by_cases h0:G.length=0
  ·omega
  ·have:=h (G.length - 1) (by omega);have h2:G[G.length - 1]? =some (G[G.length - 1]'(by omega)):=zF (by omega);rw[h2]at this;have:=Qi this;omega
 refine List.ext_getElem? fun i=> ?_;by_cases hi:i<G.length
 ·rw[zE hi];exact h i hi
 ·rw[zC (by omega),List.getElem?_drop]
  congr 1;omega
def fdR(n:Nat)(g:Int×Int→Bool)(i:Nat):List (Int×Int):=((yD i).flatMap fun x:Nat=>(yD n).map fun y:Nat=>((x:Int),(y:Int))).filter g
def fdC(g:Int×Int→Bool)(i j:Nat):List (Int×Int):=((yD j).map fun y:Nat=>((i:Int),(y:Int))).filter g
def z2q(a:Aut)(near:j1d)(pf:Int×Int→Bool)(s:Int×Int):Bool:=(lkN near s).isNone && pf s
def x2w(a:Aut)(near:j1d)(pf:Int×Int→Bool):List (Int×Int):=(X6 a a).filter (z2q a near pf)
attribute [local irreducible] lkN z2q fdR fdC
end Go.Abs
namespace Go.Abs
open Go Go.Proofs Go.Maps Go.RowKit
attribute [simp] y2t
theorem Cj(a b:Aut)(s:Int×Int):PC Tryz.prog 129 [encA a,encA b,pqr s] (fun r=>r= .fn (.func 190) [] [.iptr (Qp a),.iptr [.i s.1,.i s.2],.iptr (Qp b)]):=by refine Qh tOk Tryz.func129 rfl Tryz.results129 rfl (by simp[Tryz.ntmps129]) ?_;rw[Tryz.ntmps129];simp only[Qe];simp only[encA,pqr];repeat first|(refine r_ ?_;simp)|refine q_ ?_
def oS(s:Int):Option Mv→Int
 |some m=>m.src
 |none=>s
def oP:Option Mv→List AV
 |some m=>m.on.map encL
 |none=>[]
theorem Mb(s:Int)(o:Option Mv):Wt s o= .agg [.i (oS s o),.i (Ak o),.list (oP o)]:=by cases o<;>rfl
def ldR(a b:Aut)(s:Int×Int)(o:Option Mv)(k:Nat):List Stp:=((Wi b s.2).take k).filterMap (w15 a b s o)
def ldT(a b:Aut)(s:Int×Int)(i:Nat):List Stp:=((Wi a s.1).take i).flatMap fun o=>ldR a b s o (Wi b s.2).length
theorem u0t(a b:Aut)(s:Int×Int):ldT a b s (Wi a s.1).length=Xa a b s:=by unfold ldT ldR Xa;rw[zX,zX]
theorem M3(a b:Aut)(s:Int×Int):ldT a b s 0=[]:=by simp[ldT]
theorem c0j(a b:Aut)(s:Int×Int)(o:Option Mv):ldR a b s o 0=[]:=by simp[ldR]
theorem M5(a b:Aut)(s:Int×Int){i:Nat}{o:Option Mv}(h:(Wi a s.1)[i]? =some o):ldT a b s (i+1)=ldT a b s i++ldR a b s o (Wi b s.2).length:=by obtain⟨hi,rfl⟩:=zA.1 h;unfold ldT;rw[zJ hi,List.flatMap_append];simp
theorem w1b(a b:Aut)(s:Int×Int)(o:Option Mv){k:Nat}{r:Option Mv}(h:(Wi b s.2)[k]? =some r):ldR a b s o (k+1)=ldR a b s o k++(match Zy (B0 a b s o r)with|some x=>[(x,(Ak o,Ak r))]|none=>[]):=by
 obtain⟨hk,rfl⟩:=zA.1 h;unfold ldR;rw[zJ hk,List.filterMap_append]
 congr 1
 simp only[List.filterMap_cons,List.filterMap_nil,c0i];cases Zy (B0 a b s o (Wi b s.2)[k])<;>rfl
theorem k0b(a b:Aut)(s:Int×Int)(o:Option Mv)(k:Nat):(ldR a b s o k).length≤k:=by unfold ldR;refine yO (List.length_filterMap_le _ _) ?_;rw[List.length_take];omega
theorem B9(a b:Aut)(s:Int×Int):∀i,(ldT a b s i).length≤i * (Wi b s.2).length
 |0=>by rw[M3];simp
 |i+1=>by
  have ih:=B9 a b s i;by_cases h:i<(Wi a s.1).length
  ·rw[M5 a b s (zF h),zW,uG];have:=k0b a b s (Wi a s.1)[i] (Wi b s.2).length;omega
  ·have e:ldT a b s (i+1)=ldT a b s i:=by unfold ldT;rw[zM (by omega),zM (by omega)]
   rw[e,uG];omega
theorem Fc{a:Aut}(ha:OkA a)(s:Int):(Wi a s).length≤2049∧0<(Wi a s).length:=by have h:(mvS a s).length≤a.mv.length:=vE _ _;have:=ha.mvs;unfold Wi;simp;omega
theorem k1a{a b:Aut}(ha:OkA a)(hb:OkA b)(s:Int×Int)(o:Option Mv){i k:Nat}(hi:i<(Wi a s.1).length)(hk:k≤(Wi b s.2).length):(ldT a b s i++ldR a b s o k).length≤4198401:=by
 have h1:=B9 a b s i;have h2:=k0b a b s o k;have h3:=(Fc ha s.1).1;have h4:=(Fc hb s.2).1;rw[zW];have h5:i * (Wi b s.2).length+(Wi b s.2).length≤2049 * 2049:=by rw[←uG];exact vM (by omega) h4
 omega
theorem f0q{a:Aut}(ha:OkA a){s:Int}{o:Option Mv}(h:o∈Wi a s):(∀p∈J7 o,PCk a.types.toNat p)∧(∀p∈Ps a s o,PCk a.types.toNat p)∧(J7 o).length≤1∧(Ps a s o).length≤2048:=by
 have hl:(mvS a s).length≤a.mv.length:=vE _ _;have:=ha.mvs;rcases Uf.1 h with rfl|⟨m,hm,rfl⟩
 ·refine⟨fun p h=>(by cases h),fun p hp=> ?_,by simp[J7],by simp[Ps];omega⟩;obtain⟨m,hm,rfl⟩:=zN.1 hp;exact(ha.mv m (Rh.1 hm).1).on
 ·refine⟨fun p hp=> ?_,fun p h=>(by cases h),by simp[J7],by simp[Ps]⟩;rw[List.mem_singleton.1 hp];exact(ha.mv m (Rh.1 hm).1).on
theorem V2(p q:List Prd):Ur [p,q]=p++q:=by simp[Ur]
attribute [local irreducible] Wi J7 Ps Xa ldR ldT Zy Y2 Ur
theorem Jg (a b:Aut) (ha:OkA a) (hb:OkA b) (ht:b.types=a.types) (yi:Dta a) (yj:Dta b) (s:Int×Int) (l:Nat) {z7:Nat} {sl':List (Nat×AV)} {ps:List Tmp} {asg body:Code} (yk:ps.length=1) (yl:(ps.all fun p=>decide (p<z7))=true)
  (Inv:List Stp→List AObj→Prop) (Done:Code→List AObj→Prop) (H0:List AObj)
  (hI:∀k H,Inv k H→H[l]? =some (.lp true none z7 sl' ps asg body))
  (z8:∀k H L,Inv k H→Inv k (H++L))
  (zc:∀pre e post H,Y2 a b s=pre++e::post→Inv pre H→H0.length≤H.length→AWP Tryz.prog z7 H.length asg (A2 (AWP Tryz.prog z7 H.length body (u0k l (fun jm K2=>(jm=none∧Inv (pre++[e]) (K2.set l (.lp true none z7 sl' ps asg body))∧∀i cs,H0.length≤i→H[i]? =some (.vars cs)→(K2.set l (.lp true none z7 sl' ps asg body))[i]? =some (.vars cs))∨∃c,jm=some c∧Done c (K2.set l (.lp false (some c) z7 sl' ps asg body))))) (fun _ _=>False)) ⟨Th sl' ps [Ek e],H.set l .dead⟩)
  (h0:Inv [] H0):FC Tryz.prog 190 [.yld l,.iptr (Qp a),.iptr [.i s.1,.i s.2],.iptr (Qp b)] H0 (fun _ H'=>Inv (Y2 a b s) H'∨∃c,Done c H'):=by
 refine Ef tOk Tryz.func190 rfl Tryz.results190 rfl (by simp[Tryz.ntmps190]) ?_;rw[Tryz.ntmps190];simp only[Qe];have cOa:=Fq a s.1 (by have:=ha.mvs;omega);have cOb:=Fq b s.2 (by have:=hb.mvs;omega);have ym:=Fc ha s.1;have yn:=Fc hb s.2;simp only[encA]at cOa cOb;repeat first|(refine r_ ?_;simp)|refine q_ ?_
 refine Qj tOk mixed [] (.val 0 (.val 1 (.val 2 (.val 4 (.val 5 (.val 6 (.one 3 (.one 7 (.val 8 (.val 9 (.done))))))))))) rfl (by kernel_rfl) ?_;simp;refine Qc rfl rfl (by simp) (cOa) rfl ?_;rintro _ rfl;simp;refine Qc rfl rfl (by simp) (cOb) rfl ?_;rintro _ rfl;simp;repeat first|(refine r_ ?_;simp)|refine q_ ?_
 refine Q6 5 184 4 rfl ?_;simp;have hst:=SL.start H0 184 4;have y3:=M3 a b s;refine Ql (Qb (sl':=[(0,.yld l),(1,.iptr (Qp a)),(2,.iptr [.i s.1,.i s.2]),(3,.iptr (Qp b)),(5,.sl H0.length 4 0 (ldT a b s 0).length),(6,.list ((Wi a s.1).map (Wt s.1))),(7,.list ((Wi b s.2).map (Wt s.2))),(28,.list ((Wi a s.1).map (Wt s.1))),(29,.i (Wi a s.1).length),(30,.i (0:Nat))]) ?_ (by simp[y3]));refine Qm (P:=Tryz.prog) (F:=fun(u:Nat×Nat×List AObj)=>⟨[(0,.yld l),(1,.iptr (Qp a)),(2,.iptr [.i s.1,.i s.2]),(3,.iptr (Qp b)),(5,.sl u.2.1 4 0 (ldT a b s u.1).length),(6,.list ((Wi a s.1).map (Wt s.1))),(7,.list ((Wi b s.2).map (Wt s.2))),(28,.list ((Wi a s.1).map (Wt s.1))),(29,.i (Wi a s.1).length),(30,.i u.1)],u.2.2⟩)
  (fun u=>u.1≤(Wi a s.1).length∧SL H0 u.2.2 u.2.1 184 4 ((ldT a b s u.1).map Ek)) (fun u=>(Wi a s.1).length - u.1) ?_ (0,H0.length,_) ⟨xE _,by rw[y3];simpa using hst⟩
 rintro⟨i,q,G⟩ ⟨hi,g⟩ ih;simp only at hi g ih ⊢;repeat first|(refine r_ ?_;simp)|refine q_ ?_
 refine Qa rfl (fun yo=> ?_) (fun yp=> ?_)
 ·have zd:i<(Wi a s.1).length:=by simpa using yo
  have hw:IntKind.i64.wrap ((i:Int)+1)=i+1:=wrap_i64 _ (by omega) (by omega);obtain⟨o,ho⟩:∃o,(Wi a s.1)[i]? =some o:=⟨_,zF zd⟩
  have y4:=zD ho;obtain⟨k1,k2,k3,k4⟩:=f0q ha y4;have yq:=M5 a b s ho;have y5:=fun k h=>k1a ha hb s o (i:=i) (k:=k) zd h;have zv:=fun q' G'=>ih (i+1,q',G');simp only[yq]at zv;have cSa:=C8 a s.1 i o ho (by have:=ha.mvs;omega);have zw:=fun r h=>u1e ha hb ht (s:=s) (o:=o) (r:=r) y4 h;have y6:=fun k r h=>w1b a b s o (k:=k) (r:=r) h;have y7:=c0j a b s o;have zl:((Wi a s.1).map (Wt s.1))[i]? =some (.agg [.i (oS s.1 o),.i (Ak o),.list (oP o)]):=by rw[zQ,ho,ww,Mb]
  have zn:∀hh,((Wi a s.1).map (Wt s.1))[i]'hh= .agg [.i (oS s.1 o),.i (Ak o),.list (oP o)]:=fun hh=>(xF hh).2 zl;generalize oP o=vo at *;generalize ldT a b s i=A at *
  obtain⟨Bf,zm⟩:∃Bf:Nat→List Stp,∀k,Bf k=A++ldR a b s o k:=⟨_,fun _=>rfl⟩
  have y8:Bf 0=A:=by rw[zm,y7,xQ]
  have yr:∀k r,(Wi b s.2)[k]? =some r→Bf (k+1)=Bf k++(match Zy (B0 a b s o r)with|some x=>[(x,(Ak o,Ak r))]|none=>[]):=fun k r h=>by rw[zm,zm,y6 k r h,xX]
  have yt:∀k,k≤(Wi b s.2).length→(Bf k).length≤4198401:=fun k h=>by rw[zm];exact y5 k h
  have y9:=zm (Wi b s.2).length;simp only[←y9]at zv;clear zm y6 y7 y5 y9;repeat first|(refine r_ ?_;simp[zl,zn,zd])|refine q_ ?_
  refine Qc rfl rfl (by simp) (cSa) rfl ?_;rintro _ rfl;simp;repeat first|(refine r_ ?_;simp)|refine q_ ?_
  refine R7 fun Y hY=> ?_;have yx:Y[G.length]? =some (.vars [.i (oS s.1 o),.i (Ak o),.list vo]):=by rw[hY,zC (by simp)];simp
  have gy:SL H0 Y q 184 4 ((Bf 0).map Ek):=by rw[hY,y8];exact g.add _
  clear hY g;generalize G.length=x at *;clear G;clear zl zn;refine Ql (Qb (sl':=[(0,.yld l),(1,.iptr (Qp a)),(2,.iptr [.i s.1,.i s.2]),(3,.iptr (Qp b)),(5,.sl q 4 0 (Bf 0).length),(6,.list ((Wi a s.1).map (Wt s.1))),(7,.list ((Wi b s.2).map (Wt s.2))),(9,.vptr x 0),(10,LP (J7 o)),(11,LP (Ps a s.1 o)),(28,.list ((Wi a s.1).map (Wt s.1))),(29,.i (Wi a s.1).length),(30,.i i),(41,.list ((Wi b s.2).map (Wt s.2))),(42,.i (Wi b s.2).length),(43,.i (0:Nat))]) ?_ (by simp[y8]))
  refine Qm (P:=Tryz.prog) (F:=fun(u:Nat×Nat×List AObj)=>⟨[(0,.yld l),(1,.iptr (Qp a)),(2,.iptr [.i s.1,.i s.2]),(3,.iptr (Qp b)),(5,.sl u.2.1 4 0 (Bf u.1).length),(6,.list ((Wi a s.1).map (Wt s.1))),(7,.list ((Wi b s.2).map (Wt s.2))),(9,.vptr x 0),(10,LP (J7 o)),(11,LP (Ps a s.1 o)),(28,.list ((Wi a s.1).map (Wt s.1))),(29,.i (Wi a s.1).length),(30,.i i),(41,.list ((Wi b s.2).map (Wt s.2))),(42,.i (Wi b s.2).length),(43,.i u.1)],u.2.2⟩)
   (fun u=>u.1≤(Wi b s.2).length∧SL H0 u.2.2 u.2.1 184 4 ((Bf u.1).map Ek)∧u.2.2[x]? =some (.vars [.i (oS s.1 o),.i (Ak o),.list vo])) (fun u=>(Wi b s.2).length - u.1) ?_ (0,q,Y) ⟨xE _,gy,yx⟩
  clear gy yx;clear Y q;rintro⟨k,q,Y⟩ ⟨hk,gy,yx⟩ ih2;simp only at hk gy yx ih2 ⊢;have x7:=yt k hk;repeat first|(refine r_ ?_;simp)|refine q_ ?_
  refine Qa rfl (fun ze=> ?_) (fun zf=> ?_)
  ·have z1:k<(Wi b s.2).length:=by simpa using ze
   have zr:IntKind.i64.wrap ((k:Int)+1)=k+1:=wrap_i64 _ (by omega) (by omega);obtain⟨r,hr⟩:∃r,(Wi b s.2)[k]? =some r:=⟨_,zF z1⟩
   have ya:=zD hr;obtain⟨j1,j2,j3,j4⟩:=f0q hb ya;have cSb:=C8 b s.2 k r hr (by have:=hb.mvs;omega);have hf:=zw r ya;have yu:=yr k r hr;have z6:=fun q' G'=>ih2 (k+1,q',G');simp only[yu]at z6;have cL:=Vk a.types.toNat (by have:=ha.types;omega) (J7 o++J7 r) (Ps a s.1 o++Ps b s.2 r) (fun p hp=>(zO.1 hp).elim (k1 p) (fun h=>by rw[←ht];exact j1 p h)) (fun p hp=>(zO.1 hp).elim (k2 p) (fun h=>by rw[←ht];exact j2 p h)) (B0 a b s o r) hf;have yv:((a.types.toNat:Nat):Int)=a.types:=by have:=ha.types;omega
   rw[yv,y12]at cL;have zg:((Wi b s.2).map (Wt s.2))[k]? =some (.agg [.i (oS s.2 r),.i (Ak r),.list (oP r)]):=by rw[zQ,hr,ww,Mb]
   have zo:∀hh,((Wi b s.2).map (Wt s.2))[k]'hh= .agg [.i (oS s.2 r),.i (Ak r),.list (oP r)]:=fun hh=>(xF hh).2 zg;have cC1:=Jn [J7 o,J7 r] (by simp) (by rw[V2,zW];omega);have cC2:=Jn [Ps a s.1 o,Ps b s.2 r] (by simp) (by rw[V2,zW];omega);rw[V2]at cC1 cC2;generalize oP r=vr at *;generalize Zy (B0 a b s o r)=Z at *;generalize Bf k=B at *
   repeat first|(refine r_ ?_;simp[zg,zo,z1])|refine q_ ?_
   refine Qc rfl rfl (by simp) (cSb) rfl ?_;rintro _ rfl;simp;repeat first|(refine r_ ?_;simp)|refine q_ ?_
   generalize J7 o++J7 r=I2 at *;generalize Ps a s.1 o++Ps b s.2 r=O2 at *;generalize J7 o=Io at *;generalize J7 r=Ir at *;generalize Ps a s.1 o=Oo at *;generalize Ps b s.2 r=Or at *;refine R7 fun W hW=> ?_
   have wx:W[x]? =some (.vars [.i (oS s.1 o),.i (Ak o),.list vo]):=by rw[hW];exact Qd yx _
   have wr:W[Y.length]? =some (.vars [.i (oS s.2 r),.i (Ak r),.list vr]):=by rw[hW,zC (by simp)];simp
   have gw:SL H0 W q 184 4 (B.map Ek):=by rw[hW];exact gy.add _
   clear hW gy yx zg zo;generalize Y.length=y at *;clear Y
   have zh:∀(u z:AObj) (E:List AObj),(W++u::E).set W.length z=W++z::E:=fun u z E=>by rw[vU _ _ (by simp)];simp
   have zi:∀(u v z:AObj) (E:List AObj),(W++u::v::E).set (W.length+1) z=W++u::z::E:=fun u v z E=>by rw[vU _ _ (by simp)];simp
   have zj:∀(u v t z:AObj) (E:List AObj),(W++u::v::t::E).set (W.length+2) z=W++u::v::z::E:=fun u v t z E=>by rw[vU _ _ (by simp)];simp
   have zx:∀(u:AObj) (E:List AObj),(W++u::E)[W.length]? =some u:=fun u E=>by rw[zC (by simp)];simp
   have zy:∀(u v:AObj) (E:List AObj),(W++u::v::E)[W.length+1]? =some v:=fun u v E=>by rw[zC (by simp)];simp
   have zz:∀(u v t:AObj) (E:List AObj),(W++u::v::t::E)[W.length+2]? =some t:=fun u v t E=>by rw[zC (by simp)];simp
   refine Q3 (sl':=[(0,.yld l),(1,.iptr (Qp a)),(2,.iptr [.i s.1,.i s.2]),(3,.iptr (Qp b)),(5,.sl q 4 0 B.length),(6,.list ((Wi a s.1).map (Wt s.1))),(7,.list ((Wi b s.2).map (Wt s.2))),(9,.vptr x 0),(10,LP Io),(11,LP Oo),(13,.vptr y 0),(14,LP Ir),(15,LP Or),(28,.list ((Wi a s.1).map (Wt s.1))),(29,.i (Wi a s.1).length),(30,.i i),(41,.list ((Wi b s.2).map (Wt s.2))),(42,.i (Wi b s.2).length),(43,.i k)]) ?_ (by simp);refine Gh (P:=Tryz.prog) tOk mixed [15] (.val 0 (.val 1 (.val 2 (.val 3 (.val 6 (.val 7 (.three 4 (.three 5 (.two 8 (.two 9 (.two 10 (.val 11 (.val 12 (.val 13 (.one 14 (.one 15 (.val 16 (.done))))))) 14 (.one 10 (.val 11 (.val 12 (.val 13 (.one 15 (.val 16 (.done)))))))) 14 (.one 9 (.one 10 (.val 11 (.val 12 (.val 13 (.one 15 (.val 16 (.done))))))))) 14 (.one 8 (.one 9 (.one 10 (.val 11 (.val 12 (.val 13 (.one 15 (.val 16 (.done)))))))))) 8 (.two 5 (.two 9 (.two 10 (.val 11 (.val 12 (.val 13 (.one 14 (.one 15 (.val 16 (.done))))))) 14 (.one 10 (.val 11 (.val 12 (.val 13 (.one 15 (.val 16 (.done)))))))) 14 (.one 9 (.one 10 (.val 11 (.val 12 (.val 13 (.one 15 (.val 16 (.done))))))))) 14 (.one 5 (.one 9 (.one 10 (.val 11 (.val 12 (.val 13 (.one 15 (.val 16 (.done)))))))))) 14 (.two 5 (.one 8 (.one 9 (.one 10 (.val 11 (.val 12 (.val 13 (.one 15 (.val 16 (.done))))))))) 8 (.one 5 (.one 9 (.one 10 (.val 11 (.val 12 (.val 13 (.one 15 (.val 16 (.done))))))))))) 8 (.two 4 (.two 5 (.two 9 (.two 10 (.val 11 (.val 12 (.val 13 (.one 14 (.one 15 (.val 16 (.done))))))) 14 (.one 10 (.val 11 (.val 12 (.val 13 (.one 15 (.val 16 (.done)))))))) 14 (.one 9 (.one 10 (.val 11 (.val 12 (.val 13 (.one 15 (.val 16 (.done))))))))) 14 (.one 5 (.one 9 (.one 10 (.val 11 (.val 12 (.val 13 (.one 15 (.val 16 (.done)))))))))) 14 (.one 4 (.one 5 (.one 9 (.one 10 (.val 11 (.val 12 (.val 13 (.one 15 (.val 16 (.done))))))))))) 14 (.two 4 (.two 5 (.one 8 (.one 9 (.one 10 (.val 11 (.val 12 (.val 13 (.one 15 (.val 16 (.done))))))))) 8 (.one 5 (.one 9 (.one 10 (.val 11 (.val 12 (.val 13 (.one 15 (.val 16 (.done)))))))))) 8 (.one 4 (.one 5 (.one 9 (.one 10 (.val 11 (.val 12 (.val 13 (.one 15 (.val 16 (.done)))))))))))))))))) (fun S'=>∃(c:Nat) (E:List AObj),S'.hp=W++E∧(W++E)[c]? =some (.vars [.i (Z.getD ⟨0,0⟩).ty,.i (Z.getD ⟨0,0⟩).num])∧look S'.sl 16=some (.vptr c 0)∧look S'.sl 17=some (.bool Z.isSome)∧look S'.sl 0=some (.yld l)∧look S'.sl 1=some (.iptr (Qp a))∧look S'.sl 2=some (.iptr [.i s.1,.i s.2])∧look S'.sl 3=some (.iptr (Qp b))∧look S'.sl 5=some (.sl q 4 0 B.length)∧look S'.sl 6=some (.list ((Wi a s.1).map (Wt s.1)))∧look S'.sl 7=some (.list ((Wi b s.2).map (Wt s.2)))∧look S'.sl 9=some (.vptr x 0)∧look S'.sl 10=some (LP Io)∧look S'.sl 11=some (LP Oo)∧look S'.sl 13=some (.vptr y 0)∧look S'.sl 28=some (.list ((Wi a s.1).map (Wt s.1)))∧look S'.sl 29=some (.i (Wi a s.1).length)∧look S'.sl 30=some (.i i)∧look S'.sl 41=some (.list ((Wi b s.2).map (Wt s.2)))∧look S'.sl 42=some (.i (Wi b s.2).length)∧look S'.sl 43=some (.i k)) rfl (by kernel_rfl) ?_ ?_
   ·have za:yD 2=[0,1]:=rfl;simp[wx,wr,za]
    repeat' (first
     |refine And.intro ?_ ?_
     |(refine Qc rfl rfl (by simp) cL rfl ?_;rintro _ rfl;simp[wx,wr,za])
     |(refine Wc W.length (zx _ _) ?_;simp[zh,zi,zj];refine Qc rfl rfl (by simp) cC1 rfl ?_;rintro _ rfl;simp[wx,wr,za])
     |(refine Wc (W.length+1) (zy _ _ _) ?_;simp[zh,zi,zj];refine Qc rfl rfl (by simp) cC1 rfl ?_;rintro _ rfl;simp[wx,wr,za])
     |(refine Wc (W.length+2) (zz _ _ _ _) ?_;simp[zh,zi,zj];refine Qc rfl rfl (by simp) cC1 rfl ?_;rintro _ rfl;simp[wx,wr,za])
     |(refine Wc W.length (zx _ _) ?_;simp[zh,zi,zj];refine Qc rfl rfl (by simp) cC2 rfl ?_;rintro _ rfl;simp[wx,wr,za])
     |(refine Wc (W.length+1) (zy _ _ _) ?_;simp[zh,zi,zj];refine Qc rfl rfl (by simp) cC2 rfl ?_;rintro _ rfl;simp[wx,wr,za])
     |(refine Wc (W.length+2) (zz _ _ _ _) ?_;simp[zh,zi,zj];refine Qc rfl rfl (by simp) cC2 rfl ?_;rintro _ rfl;simp[wx,wr,za]))
   ·rintro⟨sl,E0⟩ ⟨c,E,rfl,hc,s16,s17,s0,s1,s2,s3,s5,s6,s7,s9,s10,s11,s13,s28,s29,s30,s41,s42,s43⟩;simp only at s16 s17 s0 s1 s2 s3 s5 s6 s7 s9 s10 s11 s13 s28 s29 s30 s41 s42 s43;simp;refine Q3 (sl':=[(0,.yld l),(1,.iptr (Qp a)),(2,.iptr [.i s.1,.i s.2]),(3,.iptr (Qp b)),(5,.sl q 4 0 B.length),(6,.list ((Wi a s.1).map (Wt s.1))),(7,.list ((Wi b s.2).map (Wt s.2))),(9,.vptr x 0),(10,LP Io),(11,LP Oo),(13,.vptr y 0),(16,.vptr c 0),(17,.bool Z.isSome),(28,.list ((Wi a s.1).map (Wt s.1))),(29,.i (Wi a s.1).length),(30,.i i),(41,.list ((Wi b s.2).map (Wt s.2))),(42,.i (Wi b s.2).length),(43,.i k)]) ?_ (by simp[s16,s17,s0,s1,s2,s3,s5,s6,s7,s9,s10,s11,s13,s28,s29,s30,s41,s42,s43]);clear s16 s17 s0 s1 s2 s3 s5 s6 s7 s9 s10 s11 s13 s28 s29 s30 s41 s42 s43 zh zi zj zx zy zz;have zt:=Qd wx E;have yw:=Qd wr E;have zk:=gw.add E;clear wx wr gw;generalize W++E=X at *;clear W E
    have yb:(B.map Ek).length=B.length:=by simp
    cases Z with
    |none=>
     simp only[xQ]at z6;repeat first|(refine r_ ?_;simp)|refine q_ ?_
     refine Qa rfl (fun h=>by simp at h) (fun _=> ?_);repeat first|(refine r_ ?_;simp[zr])|refine q_ ?_
     refine Qb (sl':=[(0,.yld l),(1,.iptr (Qp a)),(2,.iptr [.i s.1,.i s.2]),(3,.iptr (Qp b)),(5,.sl q 4 0 B.length),(6,.list ((Wi a s.1).map (Wt s.1))),(7,.list ((Wi b s.2).map (Wt s.2))),(9,.vptr x 0),(10,LP Io),(11,LP Oo),(28,.list ((Wi a s.1).map (Wt s.1))),(29,.i (Wi a s.1).length),(30,.i i),(41,.list ((Wi b s.2).map (Wt s.2))),(42,.i (Wi b s.2).length),(43,.i (k+1:Nat))]) ?_ (by simp);exact z6 q X ⟨by omega,zk,zt⟩ (by omega)
    |some z=>
     simp only[Option.getD_some]at hc;repeat first|(refine r_ ?_;simp)|refine q_ ?_
     refine Qa rfl (fun _=> ?_) (fun h=>by simp at h);repeat first|(refine r_ ?_;simp[hc,zt,yw])|refine q_ ?_
     refine Qf tOk rfl rfl z2p rfl z2z rfl (by decide) (by decide) rfl rfl rfl ?_;simp[Qd zk.arr,Qk zk.arr,yb];refine⟨by simp[Wu,Qd zk.arr,Qk zk.arr,yb]<;>omega,?_⟩;repeat first|(refine r_ ?_;simp[zr])|refine q_ ?_
     refine Qb (sl':=[(0,.yld l),(1,.iptr (Qp a)),(2,.iptr [.i s.1,.i s.2]),(3,.iptr (Qp b)),(5,.sl (X.length+1) 4 0 (B++[(z,(Ak o,Ak r))]).length),(6,.list ((Wi a s.1).map (Wt s.1))),(7,.list ((Wi b s.2).map (Wt s.2))),(9,.vptr x 0),(10,LP Io),(11,LP Oo),(28,.list ((Wi a s.1).map (Wt s.1))),(29,.i (Wi a s.1).length),(30,.i i),(41,.list ((Wi b s.2).map (Wt s.2))),(42,.i (Wi b s.2).length),(43,.i (k+1:Nat))]) ?_ (by simp);have yy:x≠q:=fun e=>by have:=zk.arr;rw[←e,zt]at this;simp at this
     refine z6 (X.length+1) _ ⟨by omega,?_,Qd (Qg (Ne.symm yy) zt _) _⟩ (by omega);have y0:=zk.put [AObj.arr 184 4 [Ek (z,(Ak o,Ak r))]] ((B++[(z,(Ak o,Ak r))]).map Ek) (n:=X.length+1) rfl;simpa[Ek]using y0
  ·have yz:k=(Wi b s.2).length:=by simp at zf;omega
   subst yz;repeat first|(refine r_ ?_;simp[hw])|refine q_ ?_
   refine Qb (sl':=[(0,.yld l),(1,.iptr (Qp a)),(2,.iptr [.i s.1,.i s.2]),(3,.iptr (Qp b)),(5,.sl q 4 0 (Bf (Wi b s.2).length).length),(6,.list ((Wi a s.1).map (Wt s.1))),(7,.list ((Wi b s.2).map (Wt s.2))),(28,.list ((Wi a s.1).map (Wt s.1))),(29,.i (Wi a s.1).length),(30,.i (i+1:Nat))]) ?_ (by simp);exact zv q Y ⟨by omega,gy⟩ (by omega)
 ·have x0:i=(Wi a s.1).length:=by simp at yp;omega
  subst x0;rw[u0t]at g ⊢;have zp:(Xa a b s).length≤4198401:=by rw[←u0t];have h1:=B9 a b s (Wi a s.1).length;have h2:=vM ym.1 yn.1;omega
  have yc:=fun(L:List Stp) (h1:L.Perm (Xa a b s)) (h2:L.Pairwise fun x y=>Vy x y=true)=>f0a yi yj ht s h1 h2;generalize Xa a b s=A at *
  repeat first|(refine r_ ?_;simp)|refine q_ ?_
  refine We rfl rfl (g03 G q A g.arr (by omega)) rfl ?_;rintro _ _ ⟨rfl,A',hp,hs,rfl⟩;have y1:A'=Y2 a b s:=yc A' hp (hs.imp fun h=>by unfold Vy;rw[h];rfl);have zu:A'.length=A.length:=hp.length_eq;simp;have yd:=Qi g.arr;have y2:=g.ge;refine Et q (zH yd) ?_;have ye:(A'.map Ek).take A.length=A'.map Ek:=zM (by simp[zu]);simp[AV.fz,ye,zu];rw[y1];have x1:(Y2 a b s).length≤4198401:=by rw[←y1,zu];exact zp
  have yf:∀j,j<H0.length→(G.set q .dead)[j]? =H0[j]? :=fun j hj=>by rw[zB (by omega)];exact g.keep j hj
  obtain⟨E,hE⟩:=k18 yf;have hinv:=z8 [] H0 E h0;rw[←hE]at hinv;have zb:H0.length≤(G.set q .dead).length:=by rw[hE];simp
  have hL:∀j (h:j<(Y2 a b s).length),∃post,Y2 a b s=(Y2 a b s).take j++(Y2 a b s)[j]::post:=fun j h=>⟨(Y2 a b s).drop (j+1),by rw[←List.drop_eq_getElem_cons h,xM]⟩
  clear hE yf;clear hp hs zu y1 ye zp yc g yd y2;generalize G.set q .dead=Y at *;clear G E A A';generalize Y2 a b s=L at *;refine Q3 (sl':=[(0,.yld l),(5,.list (L.map Ek))]) ?_ (by simp)
  repeat first|(refine r_ ?_;simp)|refine q_ ?_
  refine Ql (Qb (sl':=[(0,.yld l),(83,.list (L.map Ek)),(84,.i L.length),(85,.i (0:Nat))]) ?_ (by simp));refine Qm (P:=Tryz.prog) (F:=fun(u:Nat×List AObj)=>⟨[(0,.yld l),(83,.list (L.map Ek)),(84,.i L.length),(85,.i u.1)],u.2⟩)
   (fun u=>u.1≤L.length∧Inv (L.take u.1) u.2∧H0.length≤u.2.length) (fun u=>L.length - u.1) ?_ (0,Y) ⟨xE _,by simpa using hinv,zb⟩
  clear hinv zb;clear Y;rintro⟨j,G⟩ ⟨hj,gv,yg⟩ ih2;simp only at hj gv yg ih2 ⊢;repeat first|(refine r_ ?_;simp)|refine q_ ?_
  refine Qa rfl (fun ze=> ?_) (fun zf=> ?_)
  ·have z1:j<L.length:=by simpa using ze
   have zr:IntKind.i64.wrap ((j:Int)+1)=j+1:=wrap_i64 _ (by omega) (by omega);obtain⟨post,zq⟩:=hL j z1;have x2:L.take (j+1)=L.take j++[L[j]]:=zJ z1;have z6:=fun G'=>ih2 (j+1,G');simp only[x2]at z6;have zl:(L.map Ek)[j]? =some (Ek L[j]):=by simp[z1]
   have zn:∀hh,(L.map Ek)[j]'hh=Ek L[j]:=fun hh=>by simp
   generalize L[j]=e at *;generalize L.take j=pre at *;simp only[Ek]at zl zn
   repeat first|(refine r_ ?_;simp[zl,zn,z1])|refine q_ ?_
   have yh:=z8 _ G [.vars [.i e.1.ty,.i e.1.num,.i e.2.1,.i e.2.2]] gv;have i1:=hI _ _ yh;have x3:=zc pre e post _ zq yh (by simp;omega);have x4:(G++[AObj.vars [.i e.1.ty,.i e.1.num,.i e.2.1,.i e.2.2]])[G.length]? =some (.vars [.i e.1.ty,.i e.1.num,.i e.2.1,.i e.2.2]):=by rw[zC (by simp)];simp
   generalize G++[AObj.vars [.i e.1.ty,.i e.1.num,.i e.2.1,.i e.2.2]]=Y at *;refine Ub rfl rfl (q:=l) rfl rfl i1 yk yl rfl (fun jm K2=>(jm=none∧Inv (pre++[e]) (K2.set l (.lp true none z7 sl' ps asg body))∧∀i cs,H0.length≤i→Y[i]? =some (.vars cs)→(K2.set l (.lp true none z7 sl' ps asg body))[i]? =some (.vars cs))∨∃c,jm=some c∧Done c (K2.set l (.lp false (some c) z7 sl' ps asg body))) ?_ ?_
   ·exact x3
   ·rintro jm K2 (⟨rfl,hK,x5⟩|⟨c,rfl,hD⟩)
    ·simp;repeat first|(refine r_ ?_;simp)|refine q_ ?_
     refine Qa rfl (fun h=>by cases h) (fun _=> ?_);repeat first|(refine r_ ?_;simp[zr])|refine q_ ?_
     refine Qb (sl':=[(0,.yld l),(83,.list (L.map Ek)),(84,.i L.length),(85,.i (j+1:Nat))]) ?_ (by simp);exact z6 _ ⟨by omega,hK,by have:=Qi (x5 _ _ yg x4);omega⟩ (by omega)
    ·simp;repeat first|(refine r_ ?_;simp)|refine q_ ?_
     refine Qa rfl (fun _=> ?_) (fun h=>by cases h);repeat first|(refine r_ ?_;simp)|refine q_ ?_
     exact .inr ⟨c,hD⟩
  ·have x6:j=L.length:=by simp at zf;omega
   subst x6;rw[zX]at gv;repeat first|(refine r_ ?_;simp)|refine q_ ?_
   exact .inl gv
end Go.Abs
/-
 DERIVED:THE SHELF's CONTRACTS AT THIS DUMP,IN PLAIN WORDS (tools/lay-plain.mjs out of 'TryzShelf.lean',which tools/lay-shelf.mjs wrote):THE SAME DECLARATIONS UNDER THE SAME NAMES:'import','namespace','open','def','theorem' AND NOTHING ELSE:no command of the shelf's:FOR A HAND-IN. Each laying:the table of numbers ('.._ren') and one theorem,a field a fact of the dump's own or the kernel's comparison;each contract:ONE APPLICATION.
-/
namespace Go.Proofs
open Go.Shelf
def Tryz.sortPr_ren:Go.Shelf.Ren:=⟨fun|6=>130|15=>199|14=>198|28=>244|29=>245|20=>236|21=>237|22=>238|23=>239|24=>240|25=>241|26=>242|27=>243|46=>291|47=>292|48=>293|49=>294|50=>295|57=>316|n=>n,fun|22=>41|24=>66|25=>188|3=>3|39=>189|0=>0|53=>255|55=>258|4=>4|46=>291|45=>290|50=>112|5=>5|9=>9|66=>327|70=>331|76=>349|77=>350|n=>n,fun|n=>n⟩
theorem Tryz.sortPr:Go.Proofs.SlLaysF0.n6 Tryz.prog Tryz.sortPr_ren:={
 mixed:=by kernel_rfl
 f6:=⟨Tryz.f130.name,by decide,Tryz.func130.trans (congrArg some (by kernel_rfl))⟩
 f14:=⟨Tryz.f198.name,by decide,Tryz.func198.trans (congrArg some (by kernel_rfl))⟩
 f15:=Tryz.func199.trans (congrArg some (by kernel_rfl))
 f20:=⟨Tryz.f236.name,by decide,Tryz.func236.trans (congrArg some (by kernel_rfl))⟩
 f21:=⟨Tryz.f237.name,by decide,Tryz.func237.trans (congrArg some (by kernel_rfl))⟩
 f22:=⟨Tryz.f238.name,by decide,Tryz.func238.trans (congrArg some (by kernel_rfl))⟩
 f23:=⟨Tryz.f239.name,by decide,Tryz.func239.trans (congrArg some (by kernel_rfl))⟩
 f24:=⟨Tryz.f240.name,by decide,Tryz.func240.trans (congrArg some (by kernel_rfl))⟩
 f25:=⟨Tryz.f241.name,by decide,Tryz.func241.trans (congrArg some (by kernel_rfl))⟩
 f26:=⟨Tryz.f242.name,by decide,Tryz.func242.trans (congrArg some (by kernel_rfl))⟩
 f27:=⟨Tryz.f243.name,by decide,Tryz.func243.trans (congrArg some (by kernel_rfl))⟩
 f28:=Tryz.func244.trans (congrArg some (by kernel_rfl))
 f29:=Tryz.func245.trans (congrArg some (by kernel_rfl))
 f46:=⟨Tryz.f291.name,by decide,Tryz.func291.trans (congrArg some (by kernel_rfl))⟩
 f47:=Tryz.func292.trans (congrArg some (by kernel_rfl))
 f48:=Tryz.func293.trans (congrArg some (by kernel_rfl))
 f49:=⟨Tryz.f294.name,by decide,Tryz.func294.trans (congrArg some (by kernel_rfl))⟩
 f50:=⟨Tryz.f295.name,by decide,Tryz.func295.trans (congrArg some (by kernel_rfl))⟩
 f57:=⟨Tryz.f316.name,by decide,Tryz.func316.trans (congrArg some (by kernel_rfl))⟩
 t0:=Tryz.underlying0
 a0:=Tryz.isAgg0
 z0:=Tryz.sizeOf0
 v0:=Tryz.zeroValue0
 t3:=Tryz.underlying3
 a3:=Tryz.isAgg3
 z3:=Tryz.sizeOf3
 v3:=Tryz.zeroValue3
 t4:=Tryz.underlying4
 a4:=Tryz.isAgg4
 z4:=Tryz.sizeOf4
 v4:=Tryz.zeroValue4
 t5:=Tryz.underlying5
 a5:=Tryz.isAgg5
 z5:=Tryz.sizeOf5
 v5:=Tryz.zeroValue5
 t9:=Tryz.underlying9
 a9:=Tryz.isAgg9
 z9:=Tryz.sizeOf9
 v9:=Tryz.zeroValue9
 t22:=Tryz.underlying41
 a22:=Tryz.isAgg41
 z22:=Tryz.sizeOf41
 v22:=Tryz.zeroValue41
 t25:=Tryz.underlying188
 a25:=Tryz.isAgg188
 z25:=Tryz.sizeOf188
 v25:=Tryz.zeroValue188
 t39:=Tryz.underlying189
 a39:=Tryz.isAgg189
 z39:=Tryz.sizeOf189
 v39:=Tryz.zeroValue189
 t45:=Tryz.underlying290
 a45:=Tryz.isAgg290
 z45:=Tryz.sizeOf290
 v45:=Tryz.zeroValue290
 t46:=Tryz.underlying291
 a46:=Tryz.isAgg291
 z46:=Tryz.sizeOf291
 v46:=Tryz.zeroValue291
 t50:=Tryz.underlying112
 a50:=Tryz.isAgg112
 z50:=Tryz.sizeOf112
 v50:=Tryz.zeroValue112
 t53:=Tryz.underlying255
 a53:=Tryz.isAgg255
 z53:=Tryz.sizeOf255
 v53:=Tryz.zeroValue255
 t55:=Tryz.underlying258
 a55:=Tryz.isAgg258
 z55:=Tryz.sizeOf258
 v55:=Tryz.zeroValue258
 t66:=Tryz.underlying327
 a66:=Tryz.isAgg327
 z66:=Tryz.sizeOf327
 v66:=Tryz.zeroValue327
 t70:=Tryz.underlying331
 a70:=Tryz.isAgg331
 z70:=Tryz.sizeOf331
 v70:=Tryz.zeroValue331
 t76:=Tryz.underlying349
 a76:=Tryz.isAgg349
 z76:=Tryz.sizeOf349
 v76:=Tryz.zeroValue349
 t77:=Tryz.underlying350
 a77:=Tryz.isAgg350
 z77:=Tryz.sizeOf350
 v77:=Tryz.zeroValue350 }
end Go.Proofs
namespace Go.Abs
open Go Go.Proofs Go.RowKit Go.Shelf Go.Lib Go.Sort
theorem J4{w:World}{I:Nat→Prop}{v:Value}{k:IntKind}{n:Int}(h:PVR w I v (.int k n)):v= .int k n:=by cases h;rfl
def Dk(x:Int×Int):List Value:=[.int .i64 x.1,.int .i64 x.2]
theorem q29(x y:Int×Int):ltOf Nc x y=j1f x y:=Mk x y
theorem j15{w:World}{I:Nat→Prop}{l:List (Int×Int)}{F:Array Value}(hR:RowW w I 2 (l.map pqr) F):flatK Dk 2 l.toArray=F:=by
 have z1:F.size=l.length * 2:=by have:=hR.size;simpa using this
 refine ext_get! (by simp[z1]) fun t ht=> ?_;have z6:t<l.length * 2:=by simpa using ht
 rw[get_flatK _ _ _ _ (by simpa using z6)];have hi:t / 2<l.length:=by omega
 rw[getElem!_pos l.toArray _ (by simpa using hi)];have hx:(l.map pqr)[t / 2]? =some (pqr l[t / 2]):=by simp[hi]
 have c0:=J4 (hR.cell _ _ hx 0 _ rfl);have c1:=J4 (hR.cell _ _ hx 1 _ rfl);have e0:l.toArray[t / 2]'(by simpa using hi)=l[t / 2]:=by simp
 rw[e0];have hm:t % 2=0∨t % 2=1:=by omega
 rcases hm with h|h<;>rw[h]
 ·have e1:t / 2 * 2+0=t:=by omega
  rw[e1]at c0;rw[c0];rfl
 ·have e1:t / 2 * 2+1=t:=by omega
  rw[e1]at c1;rw[c1];rfl
theorem v07(H:List AObj)(p:Nat)(l:List (Int×Int))(hp:H[p]? =some (.arr 66 2 (l.map pqr)))(hl:l.length≤100000000):
  FC Tryz.prog 130 [.sl p 2 0 l.length,.fn (.func 131) [] []] H
   (fun r H'=>r= .tup []∧∃l':List (Int×Int),l'.Perm l∧l'.Pairwise (fun x y=>j1f y x=false)∧H'=H.set p (.arr 66 2 (l'.map pqr))):=by
 refine(j0u (xs:=l.map pqr) (Yd Tryz.func130 rfl rfl) (by simp) hp [.func (.func 131) #[] #[]] (fun w I m vs a b=>V7 _ w I m _ vs a b) (fun z8=>∃l':List (Int×Int),l'.Perm l∧l'.Pairwise (fun x y=>j1f y x=false)∧z8=l'.map pqr) ?_ ?_).mono ?_
 ·intro w I b cap F hE hI zc hR hH hb hc;by_cases z6:l=[]
  ·subst z6;refine Calls.mono (AnyF.slices_SortFunc_none Tryz.sortPr (some ⟨b,0,none⟩) cap _ w) ?_;rintro e w' ⟨rfl,rfl⟩;refine⟨rfl,[],F,0,#[],⟨[],.refl _,.nil,rfl⟩,rfl,hR,?_⟩;rw[grow_empty];exact(putRow_self id w' b 0 F hH).symm
  ·have zd:0<l.length:=ub.2 z6;have eg:∀args w,(callFunc 131 args).run Tryz.prog w= .ok (.enter 131 args) w:=enters_of Tryz.func131 (by kernel_rfl) rfl;have ze:=j15 hR;have zf:HoldsK Dk 2 w b 0 l.toArray:=by unfold HoldsK;rw[ze];exact hH
   have z7:CmpLays Tryz.prog 131 #[] Dk 2 Nc b 0 l.toArray.size w:=fun q os dk hs x y=>by
    have hW:∀c,I c→(sortWorldK Dk 2 w b 0 q dk os).heap[c]? =w.heap[c]? :=fun c za=>by have zg:=hI c za;have zh:b≠c:=fun e=>zc (e▸za);simp only[sortWorldK,grow,putRowK,putRow,mapBlock,Sort.ahead];rw[yF (by simpa using zg),wQ,if_neg zh]
    have zb:∀z:Int×Int,PVR w I (.agg (Dk z).toArray) (pqr z):=fun z=>by
     refine .agg _ _ (by simp[Dk]) fun i v x' hv z1=> ?_
     match i,hv,z1 with
     |0,hv,z1=>simp[Dk]at hv z1;subst hv z1;exact .int _ _
     |1,hv,z1=>simp[Dk]at hv z1;subst hv z1;exact .int _ _
     |k+2,hv,z1=>simp[Dk]at hv
    refine(d01 x y).laid hE hI hW (by simp) fun i v x' hv z1=> ?_
    match i,hv,z1 with
    |0,hv,z1=>simp at hv z1;subst hv z1;exact zb x
    |1,hv,z1=>simp at hv z1;subst hv z1;exact zb y
   have:=AnyQ.slices_SortFunc Tryz.sortPr 2 Tryz.isAgg66 Tryz.sizeOf66 Dk (fun _=>rfl) (fun x v hv=>by simp[Dk]at hv;rcases hv with rfl|rfl<;>rfl) Nc f01 131 #[] b 0 cap l.toArray w eg z7 zf hb (by simp;omega);rw[show(l.toArray).size=l.length by simp]at this;refine Calls.mono this ?_;rintro e w' ⟨rfl,d',n,os,h1,h2,rfl⟩;obtain⟨s1,_,s3⟩:=h1;have hs:d'.toList.length=l.length:=by simpa using s1
   refine⟨rfl,d'.toList.map pqr,flatK Dk 2 d',n,os,⟨d'.toList,?_,?_,rfl⟩,by simp[hs],⟨by simp,fun x hx=> ?_,fun i x hx j y hy=> ?_⟩,rfl⟩
   ·rw[show d'.extract 0 l.length=d' by simp[←hs],show l.toArray.extract 0 l.length=l.toArray by simp]at s3;simpa using s3
   ·refine yC.2 fun i j hi hj zi=> ?_;have:=h2 i j (xE _) zi (by omega);rw[q29,getElem!_pos d' i (by simpa using hi),getElem!_pos d' j (by simpa using hj)]at this;simpa using this
   ·obtain⟨z,_,rfl⟩:=zN.1 hx;rfl
   ·rw[zQ]at hx;obtain⟨z,hz,rfl⟩:=zL.1 hx;obtain⟨hi,rfl⟩:=zA.1 hz;have hj:j<2:=(zA.1 hy).1;have zj:i<d'.size:=by simpa using hi
    rw[get_flatK _ _ _ _ (by omega)];rw[show(i * 2+j) / 2=i by omega,show(i * 2+j) % 2=j by omega];rw[getElem!_pos d' i zj]
    match j,hj,hy with
    |0,_,hy=>simp[pqr,AV.cells]at hy;subst hy;exact .int _ _
    |1,_,hy=>simp[pqr,AV.cells]at hy;subst hy;exact .int _ _
 ·rintro h;have z6:l=[]:=by
   cases l with
   |nil=>rfl
   |cons x r=>simp at h
  subst z6;exact⟨⟨[],.refl _,.nil,rfl⟩,fun w=>AnyF.slices_SortFunc_none Tryz.sortPr none 0 _ w⟩
 ·rintro r H' ⟨rfl,z8,⟨l',h1,h2,rfl⟩,rfl⟩;exact⟨rfl,l',h1,h2,rfl⟩
end Go.Abs
namespace Go.Abs
open Go Go.Proofs Go.Maps Go.RowKit
structure ShI (a b:Aut) (L:List PQ) (V:List Vst) (q N i:Nat) (H:List AObj):Prop where
 ok:VOk V L
 di:DInv a b L
 h0:H[0]? =some (.vars (Qp a))
 h1:H[1]? =some (.vars (Qp b))
 h2:H[2]? =some (stQ (L.map (·.1)))
 h3:H[3]? =some (.vars [.mref 2])
 h5:H[5]? =some (.vars [.sl q 6 0 V.length])
 hq:H[q]? =some (.arr 176 6 (V.map A9))
 hN:H[N]? =some (.vars [.i i])
 nl:5<N
theorem ShI.app{a b:Aut}{L:List PQ}{V:List Vst}{q N i:Nat}{H:List AObj}(h:ShI a b L V q N i H)(E:List AObj):ShI a b L V q N i (H++E):=
 ⟨h.ok,h.di,Qd h.h0 _,Qd h.h1 _,Qd h.h2 _,Qd h.h3 _,Qd h.h5 _,Qd h.hq _,Qd h.hN _,h.nl⟩
theorem ShI.setx{a b:Aut}{L:List PQ}{V:List Vst}{q N i:Nat}{H:List AObj}(h:ShI a b L V q N i H){j:Nat}(hj:5<j)(hq:j≠q)(hN:j≠N)(x:AObj):ShI a b L V q N i (H.set j x):=
 ⟨h.ok,h.di,Qg (by omega) h.h0 _,Qg (by omega) h.h1 _,Qg (by omega) h.h2 _,Qg (by omega) h.h3 _,Qg (by omega) h.h5 _,Qg hq h.hq _,Qg hN h.hN _,h.nl⟩
theorem ShI.cell{a b:Aut}{L:List PQ}{V:List Vst}{q N i:Nat}{H:List AObj}(h:ShI a b L V q N i H)(j:Nat):ShI a b L V q H.length j (H++[.vars [.i j]]):=
 ⟨h.ok,h.di,Qd h.h0 _,Qd h.h1 _,Qd h.h2 _,Qd h.h3 _,Qd h.h5 _,Qd h.hq _,by rw[zC (by simp)];simp,by have:=Qi h.hN;have:=h.nl;omega⟩
theorem ShI.qne{a b:Aut}{L:List PQ}{V:List Vst}{q N i:Nat}{H:List AObj}(h:ShI a b L V q N i H):q≠0∧q≠1∧q≠2∧q≠3∧q≠5∧q≠N:=by
 have hq:=h.hq;refine⟨fun e=> ?_,fun e=> ?_,fun e=> ?_,fun e=> ?_,fun e=> ?_,fun e=> ?_⟩
 ·rw[e,h.h0]at hq;simp at hq
 ·rw[e,h.h1]at hq;simp at hq
 ·rw[e,h.h2]at hq;simp[stQ]at hq
 ·rw[e,h.h3]at hq;simp at hq
 ·rw[e,h.h5]at hq;simp at hq
 ·rw[e,h.hN]at hq;simp at hq
theorem ShI.push {a b:Aut} {L:List PQ} {V:List Vst} {q N n:Nat} {H:List AObj} (h:ShI a b L V q N n H) {e:PQ} (hn:L[n]? =some e) {t:Int×Int} {x:Sy} (ht:inD a t.1∧inD b t.2) (z1:t∉L.map (·.1)) {Z:List AObj} {q':Nat} (hlen:H.length≤Z.length)
  (e2:Z[2]? =some (stQ (L.map (·.1)++[t]))) (e5:Z[5]? =some (.vars [.sl q' 6 0 (V.length+1)])) (eq:Z[q']? =some (.arr 176 6 (V.map A9++[A9 ⟨t,n,x,false⟩]))) (ek:∀j,j≠2→j≠5→j≠q→j<H.length→Z[j]? =H[j]?):
  ShI a b (L++[(t,e.2++[x])]) (V++[⟨t,n,x,false⟩]) q' N n Z:=by
 obtain⟨n0,n1,n2,n3,n5,nN⟩:=h.qne;have z6:=h.nl;refine⟨h.ok.push hn t x,h.di.add ht z1,(ek 0 (by decide) (by decide) (Ne.symm n0) (Qi h.h0)).trans h.h0,(ek 1 (by decide) (by decide) (Ne.symm n1) (Qi h.h1)).trans h.h1,by rw[e2];simp,(ek 3 (by decide) (by decide) (Ne.symm n3) (Qi h.h3)).trans h.h3,by rw[e5];simp,by rw[eq];simp,(ek N (by omega) (by omega) (Ne.symm nN) (Qi h.hN)).trans h.hN,h.nl⟩
theorem q0l{a b:Aut}(ha:OkA a)(hb:OkA b){s:Int×Int}(h:inD a s.1∧inD b s.2):okQ s:=by
 have h1:=ha.fin;have h2:=hb.fin;unfold okQ;obtain⟨h3|h3,h4|h4⟩:=h
 ·omega
 ·have:=h4.1;have:=h4.2;omega
 ·have:=h3.1;have:=h3.2;omega
 ·have:=h3.1;have:=h3.2;have:=h4.1;have:=h4.2;omega
theorem DInv.okQ{a b:Aut}(ha:OkA a)(hb:OkA b){L:List PQ}(h:DInv a b L):∀s∈L.map (·.1),okQ s:=fun s hs=>by obtain⟨e,he,rfl⟩:=zN.1 hs;exact q0l ha hb (h.rng e he)
theorem G6(w:List Sy):∀(es:List (Sy×(Int×Int))) (L:List PQ),∃E,Ei L w es=L++E
 |[],L=>⟨[],by simp[Ei]⟩
 |e::es,L=>by
  obtain⟨E,hE⟩:=G6 w es (x0g L e.2 (w++[e.1]));have h:Ei L w (e::es)=Ei (x0g L e.2 (w++[e.1])) w es:=rfl;rw[h,hE];unfold x0g;split
  ·exact⟨E,rfl⟩
  ·exact⟨_,by rw[xX]⟩
theorem B7(L:List PQ)(w:List Sy)(es:List (Sy×(Int×Int)))(e:Sy×(Int×Int)):Ei L w (es++[e])=x0g (Ei L w es) e.2 (w++[e.1]):=by unfold Ei;rw[List.foldl_append];rfl
def Nu(r:Option (List Sy)×List PQ):AV:=match r.1 with
 |some w=> .tup [LSy w,.bool true,LQp []]
 |none=> .tup [LSy [],.bool false,LQp (Tn (r.2.map (·.1)))]
theorem v1t{x y:Int×Int}(h:j1f y x=false):pLe x y=true:=by unfold j1f at h;unfold pLe;rw[←up]at h;simp only[ws,zR,decide_eq_true_eq]at *;omega
theorem c0y(a b:Aut)(wn:Bool→Bool→Bool):Hg a b wn=Jf (Vi wn a b) (Y2 a b) ((a.fin.length+1) * (b.fin.length+1)+1) 0 [((0,0),[])]:=rfl
attribute [local irreducible] Y2 Jf Ei q0q stQ Tn
theorem A5(a b:Aut)(ha:Dta a)(hb:Dta b)(ht:b.types=a.types)(wn:Bool→Bool→Bool)(f:Nat)(zt:∀x y,PC Tryz.prog f [.bool x,.bool y] (fun r=>r= .bool (wn x y))):PC Tryz.prog 67 [encA a,encA b,.fn (.func f) [] []] (fun r=>r=Nu (Hg a b wn)):=by
 refine Qh tOk Tryz.func67 rfl Tryz.results67 rfl (by simp[Tryz.ntmps67]) ?_;rw[Tryz.ntmps67];simp only[Qe];simp only[encA];have y7:=ha.ok.fin;have y8:=hb.ok.fin;rw[c0y];obtain⟨R,hR⟩:∃R,Jf (Vi wn a b) (Y2 a b) ((a.fin.length+1) * (b.fin.length+1)+1) 0 [((0,0),[])]=R:=⟨_,rfl⟩
 rw[hR];obtain⟨M,hM⟩:∃M,M=(a.fin.length+1) * (b.fin.length+1):=⟨_,rfl⟩
 have yx:M≤66049:=by rw[hM];exact yO (vM (th y7.2) (th y8.2)) (by decide)
 rw[←hM]at hR;have hlen:=fun L (h:DInv a b L)=>h.len;rw[←hM]at hlen;repeat first|(refine r_ ?_;simp)|refine q_ ?_
 refine Ex rfl rfl rfl ?_;simp;refine z0t rfl rfl rfl rfl (s:=(0,0)) rfl rfl rfl (by unfold okQ;decide) ?_;simp;repeat first|(refine r_ ?_;simp)|refine q_ ?_
 have zu:ShI a b [((0,0),[])] [⟨(0,0),0,⟨0,0⟩,true⟩] 4 6 0 [.vars (Qp a),.vars (Qp b),stQ [(0,0)],.vars [.mref 2],.arr 176 6 [.agg [.i 0,.i 0,.i 0,.i 0,.i 0,.bool true]],.vars [.sl 4 6 0 1],.vars [.i 0]]:=
  ⟨VOk.start,DInv.start ha.ok hb.ok,rfl,rfl,rfl,rfl,rfl,rfl,rfl,by decide⟩
 have zv:∀s,Vi wn a b s=wn (q0q a s.1) (q0q b s.2):=fun _=>rfl;have zw:=fun s e h=>u0z ha hb ht (s:=s) (e:=e) h;refine Ql (Qb (sl':=[(2,.fn (.func f) [] []),(3,.vptr 0 0),(4,.vptr 1 0),(9,.vptr 3 0),(10,.vptr 5 0),(11,.vptr 6 0)]) ?_ (by simp));refine Qm (P:=Tryz.prog) (F:=fun(u:Nat×Nat×Nat×List PQ×List Vst×List AObj)=>⟨[(2,.fn (.func f) [] []),(3,.vptr 0 0),(4,.vptr 1 0),(9,.vptr 3 0),(10,.vptr 5 0),(11,.vptr u.2.1 0)],u.2.2.2.2.2⟩)
  (fun u=>u.1≤u.2.2.2.1.length∧ShI a b u.2.2.2.1 u.2.2.2.2.1 u.2.2.1 u.2.1 u.1 u.2.2.2.2.2∧Jf (Vi wn a b) (Y2 a b) (M+1 - u.1) u.1 u.2.2.2.1=R) (fun u=>M+1 - u.1) ?_ (0,6,4,_,_,_) ⟨by simp,zu,hR⟩
 clear hR zu;rintro⟨i,N,q,L,V,H⟩ ⟨hi,hS,hB⟩ ih;simp only at hi hS hB ih ⊢;have yy:=hlen L hS.di;have yz:=hS.ok.len;have x0:=hS.nl;have y9:=hS.qne;repeat first|(refine r_ ?_;simp[hS.hN,hS.h5])|refine q_ ?_
 refine Qa rfl (fun ya=> ?_) (fun yb=> ?_)
 ·have ze:i<V.length:=by simpa using ya
  have hw:IntKind.i64.wrap ((i:Int)+1)=i+1:=wrap_i64 _ (by omega) (by omega);obtain⟨v,hv⟩:∃v,V[i]? =some v:=⟨_,zF ze⟩
  obtain⟨⟨s,w⟩,he⟩:∃e,L[i]? =some e:=⟨_,zF (by omega)⟩
  have zx:=hS.ok.key i v _ hv he;have zj:=hS.di.rng _ (zD he);simp only at zx zj;have cW:=q10 V L hS.ok i _ he (by omega);rw[show M+1 - i=(M - i)+1 by omega,f0x he,zv]at hB;have zc:(V.map A9)[i]? =some (A9 v):=by rw[zQ,hv];rfl
  have zf:∀hh,(V.map A9)[i]'hh=A9 v:=fun hh=>(xF hh).2 zc;simp only[A9,zx]at zc zf;have cFa:=Vc a s.1 zj.1;have cFb:=Vc b s.2 zj.2;have cWn:=zt (q0q a s.1) (q0q b s.2);have cLe:=Cj a b s;simp only[encA,pqr]at cFa cFb cLe;generalize wn (q0q a s.1) (q0q b s.2)=wv at *
  repeat first|(refine r_ ?_;simp[hS.hN,hS.h5,hS.hq,zc,zf,ze])|refine q_ ?_
  have z8:=hS.app [.vars [.i s.1,.i s.2]];have zd:(H++[AObj.vars [.i s.1,.i s.2]])[H.length]? =some (.vars [.i s.1,.i s.2]):=by rw[zC (by simp)];simp
  have x1:=Qi hS.hN;clear hS;generalize H++[AObj.vars [.i s.1,.i s.2]]=Y at *;generalize H.length=x at *;clear H
  have y0:=z8.h0;have y1:=z8.h1;refine Qj tOk mixed [] (.val 0 (.val 1 (.val 2 (.val 3 (.val 5 (.val 6 (.val 7 (.one 4 (.one 8 (.one 9 (.done))))))))))) rfl (by kernel_rfl) ?_;simp[y0,y1,zd];refine Qc rfl rfl (by simp) (cFa) rfl ?_;rintro _ rfl;simp[y0,y1,zd];refine Qc rfl rfl (by simp) (cFb) rfl ?_;rintro _ rfl;simp[y0,y1,zd];refine Qc rfl rfl (by simp) (cWn) rfl ?_;rintro _ rfl;simp[y0,y1,zd];refine Qa rfl (fun hd=> ?_) (fun hd=> ?_)
  ·rw[if_pos hd]at hB;subst hB;have y5:=z8.h5;have yN:=z8.hN;repeat first|(refine r_ ?_;simp[y5,yN])|refine q_ ?_
   refine K8 q z8.hq 5 y5 (Ne.symm y9.2.2.2.2.1) rfl ?_;simp[AObj.fz,AV.fz];rw[zM (by simp)];refine Qc rfl rfl (by simp) (cW) rfl ?_;rintro _ rfl;simp;repeat first|(refine r_ ?_;simp)|refine q_ ?_
   rfl
  ·rw[if_neg (by rw[hd];simp)]at hB;repeat first|(refine r_ ?_;simp[y0,y1,zd])|refine q_ ?_
   refine Qc rfl rfl (by simp) (cLe) rfl ?_;rintro _ rfl;simp;refine Q3 (sl':=[(2,.fn (.func f) [] []),(3,.vptr 0 0),(4,.vptr 1 0),(9,.vptr 3 0),(10,.vptr 5 0),(11,.vptr N 0),(12,.vptr x 0),(49,.fn (.func 190) [] [.iptr (Qp a),.iptr [.i s.1,.i s.2],.iptr (Qp b)])]) ?_ (by simp);have x3:=Qi z8.hN;have x4:=Qi z8.hq;have yc:=Qi zd;repeat first|(refine r_ ?_;simp)|refine q_ ?_
   refine Ey rfl (Rf:=fun _ H'=>∃q' V',ShI a b (Ei L w (Y2 a b s)) V' q' N i H'∧Y.length≤H'.length∧∃sl' ps' a' b',H'[Y.length]? =some (.lp true none 84 sl' ps' a' b')) ?_ ?_
   ·simp;refine Ke fun H1 zi=> ?_;have fS:ShI a b L V q N i H1:=by rw[zi];exact z8.app _
    have fl:H1.length=Y.length+1:=by rw[zi];simp
    have fq:=congrArg (fun h:List AObj=>h[Y.length]?) zi;simp at fq;clear zi;refine FC.mono (Jg a b ha.ok hb.ok ht ha hb s Y.length (by rfl) (by rfl)
     (fun pre K=>∃q' V',ShI a b (Ei L w pre) V' q' N i K∧K[Y.length]? =H1[Y.length]?) (fun _ _=>False) H1 (fun pre K ⟨q',V',h1,h2⟩=>h2.trans fq)
     (fun pre K E ⟨q',V',h1,h2⟩=>⟨q',V',h1.app E,by rw[←h2,zE (Qi (h2.trans fq))]⟩) ?_ ⟨q,V,by rw[w0e];exact fS,rfl⟩) ?_
    ·rintro pre e post K heq ⟨q',V',zk,yd⟩ hlen1;simp[Th];have h8:=yd.trans fq;have z1:Y.length≠q':=fun e=>by have:=zk.hq;rw[←e,h8]at this;simp at this
     have z6:Y.length≠N:=fun e=>by have:=zk.hN;rw[←e,h8]at this;simp at this
     have hd:=zk.setx (j:=Y.length) (by omega) z1 z6 .dead;have d6:=Qq h8 .dead;have dl:(K.set Y.length .dead).length=K.length:=by simp
     have zl:∀j,j≠Y.length→(K.set Y.length .dead)[j]? =K[j]? :=fun j hj=>by rw[zB (Ne.symm hj)]
     generalize K.set Y.length .dead=Z at *
     have zm:=zw s e (by rw[heq];simp);obtain⟨E0,ye⟩:=G6 w pre L;have yf:(Ei L w pre)[i]? =some (s,w):=by rw[ye,zE (zA.1 he).1];exact he
     have zn:=B7 L w pre e;have zo:=hlen _ hd.di;have yg:=hd.ok.len;have zg:=hd.di.okQ ha.ok hb.ok;have za:=q0l ha.ok hb.ok zm;generalize Ei L w pre=L2 at *;rw[zn]
     obtain⟨⟨ty,num⟩,t⟩:=e;simp only[Ek];simp only at zm za;have zy:∀E,ShI a b L2 V' q' N i (Z++E):=fun E=>hd.app E;have z3:=fun E=>(zy E).h3;have z2:=fun E=>(zy E).h2;repeat first|(refine r_ ?_;simp[z3])|refine q_ ?_
     refine Br rfl rfl rfl rfl (s:=t) rfl (z2 _) zg za ?_;simp;repeat first|(refine r_ ?_;simp)|refine q_ ?_
     by_cases hm:t∈L2.map (·.1)
     ·have hA:x0g L2 t (w++[⟨ty,num⟩])=L2:=if_pos hm;rw[hA];refine Qa rfl (fun h=>by rw[decide_eq_true hm]at h;cases h) (fun _=> ?_);repeat first|(refine r_ ?_;simp)|refine q_ ?_
      refine⟨Qd d6 _,rfl,⟨⟨q',V',(hd.app _).setx (by omega) z1 z6 _⟩,by rw[fq];exact Qq (Qd d6 _) _⟩,fun j cs hj hc=> ?_⟩;have zb:j≠Y.length:=by omega
      exact Qg (Ne.symm zb) (Qd ((zl j zb).trans hc) _) _
     ·have hA:x0g L2 t (w++[⟨ty,num⟩])=L2++[(t,w++[⟨ty,num⟩])]:=if_neg hm;rw[hA];refine Qa rfl (fun _=> ?_) (fun h=>by rw[decide_eq_false hm]at h;cases h);repeat first|(refine r_ ?_;simp[z3])|refine q_ ?_
      refine H5 rfl rfl rfl rfl (s:=t) rfl rfl (z2 _) zg za hm ?_;simp;refine R7 fun W hW=> ?_;have x7:=Qi hd.h2;have yh:=Qi hd.h5;have yi:=Qi hd.hN;have yj:=Qi hd.hq;obtain⟨m0,m1,m2,m3,m5,mN⟩:=hd.qne;have w2:W[2]? =some (stQ (L2.map (·.1)++[t])):=by rw[hW,zH (by simp;omega)]
      have wt:W[Z.length]? =some (.vars [.i ty,.i num,.i t.1,.i t.2]):=by rw[hW,zB (by omega),zC (by simp)];simp
      have wk:∀j,j≠2→j<Z.length→W[j]? =Z[j]? :=fun j h1 h2=>by rw[hW,zB (Ne.symm h1),zE h2]
      have wl:W.length=Z.length+1:=by rw[hW];simp
      have w5:=(wk 5 (by decide) yh).trans hd.h5;have wN:=(wk N (by omega) yi).trans hd.hN;have wq:=(wk q' m2 yj).trans hd.hq;have w6:=(wk Y.length (by omega) (Qi d6)).trans d6;clear hW;have zz:(V'.map A9).length=V'.length:=by simp
      repeat first|(refine r_ ?_;simp[w5,wt,wN])|refine q_ ?_
      have w5s:∀E,(W.set q' .dead++E)[5]? =some (.vars [.sl q' 6 0 V'.length]):=fun E=>Qd (Qg m5 w5 _) _;refine Qf tOk rfl rfl z2i rfl z29 rfl (by decide) (by decide) rfl rfl rfl ?_;simp[Qd wq,Qk wq,zz,w5s];refine⟨by simp[Wu,Qd wq,Qk wq,zz,w5s]<;>omega,?_⟩;repeat first|(refine r_ ?_;simp)|refine q_ ?_
      obtain⟨X,hX⟩:∃X,X=(W.set q' .dead++[AObj.arr 176 6 [.agg [.i t.1,.i t.2,.i i,.i ty,.i num,.bool false]],AObj.arr 176 6 (V'.map A9++[.agg [.i t.1,.i t.2,.i i,.i ty,.i num,.bool false]])]).set 5 (.vars [.sl (W.length+1) 6 0 (V'.length+1)]):=⟨_,rfl⟩
      rw[←hX];have x8:W.length+1<X.length:=by rw[hX];simp
      have yk:Z.length≤X.length:=by omega
      have x2:X[2]? =some (stQ (L2.map (·.1)++[t])):=by rw[hX];exact Qg (by decide) (Qd (Qg m2 w2 _) _) _
      have x5:X[5]? =some (.vars [.sl (W.length+1) 6 0 (V'.length+1)]):=by rw[hX];exact Qq (w5s _) _
      have xq:X[W.length+1]? =some (.arr 176 6 (V'.map A9++[A9 ⟨t,i,⟨ty,num⟩,false⟩])):=by rw[hX,zB (by omega),zC (by simp)];simp[A9]
      have xk:∀j,j≠2→j≠5→j≠q'→j<Z.length→X[j]? =Z[j]? :=fun j h1 h2 h3 h4=>by rw[hX,zB (Ne.symm h2),zE (by simp;omega),zB (Ne.symm h3)];exact wk j h1 h4
      clear hX;have zh:=hd.push yf zm hm (x:=⟨ty,num⟩) yk x2 x5 xq xk;have x6:X[Y.length]? =some .dead:=(xk _ (by omega) (by omega) z1 (Qi d6)).trans d6;refine⟨x6,rfl,⟨⟨W.length+1,V'++[⟨t,i,⟨ty,num⟩,false⟩],zh.setx (by omega) (by have:=Qi d6;omega) z6 _⟩,by rw[fq];exact Qq x6 _⟩,fun j cs hj hc=> ?_⟩;have zb:j≠Y.length:=by omega
      have yl:j≠q':=fun e=>by rw[e]at hc zb;rw[zl _ zb |>.symm,hd.hq]at hc;cases hc
      exact Qg (Ne.symm zb) ((xk j (by omega) (by omega) yl (by have:=Qi hc;omega)).trans ((zl j zb).trans hc)) _
    ·rintro _ H' (⟨q',V',h1,h2⟩|⟨c,h⟩)
     ·exact⟨⟨q',V',h1⟩,Nat.le_of_lt (Qi (h2.trans fq)),_,_,_,_,h2.trans fq⟩
     ·exact h.elim
   ·rintro res H' ⟨q',V',h1,h2,sl',ps',a',b',h3⟩;refine⟨true,none,84,sl',ps',a',b',by simpa using h3,?_⟩;simp;have z1:Y.length≠q':=fun e=>by have:=h1.hq;rw[←e,h3]at this;simp at this
    have z6:Y.length≠N:=fun e=>by have:=h1.hN;rw[←e,h3]at this;simp at this
    have zp:=h1.setx (j:=Y.length) (by omega) z1 z6 .dead;obtain⟨E,hE⟩:=G6 w (Y2 a b s) L;have x9:i<(Ei L w (Y2 a b s)).length:=by rw[hE,zW];omega
    clear h1 h3;generalize H'.set Y.length .dead=Z at *;generalize Ei L w (Y2 a b s)=L2 at *
    have dN:=zp.hN;have zo:=hlen L2 zp.di;repeat first|(refine r_ ?_;simp[dN,hw])|refine q_ ?_
    refine Qb (sl':=[(2,.fn (.func f) [] []),(3,.vptr 0 0),(4,.vptr 1 0),(9,.vptr 3 0),(10,.vptr 5 0),(11,.vptr Z.length 0)]) ?_ (by simp);exact ih (i+1,Z.length,q',L2,V',_) ⟨by simp only;omega,zp.cell (i+1),by rw[show M+1 - (i+1)=M - i by omega];exact hB⟩ (by simp only;omega)
 ·have ym:L.length≤i:=by simp at yb;omega
  rw[u0j (by rw[List.getElem?_eq_none_iff];omega)]at hB;subst hB;rw[show Nu (none,L)= .tup [.list [],.bool false,LQp (Tn (L.map (·.1)))] from rfl];have yn:=hS.di.nd;have y2:=hS.ok.pairs;have yo:=hS.h5;have yp:=hS.hq;clear ih zw zv hlen zt;refine Q3 (sl':=[(10,.vptr 5 0)]) ?_ (by simp);repeat first|(refine r_ ?_;simp[yo])|refine q_ ?_
  refine Q6 14 66 2 rfl ?_;simp;have hst:=SL.start H 66 2;refine Ql (Qb (sl':=[(14,.sl H.length 2 0 (0:Nat)),(69,.sl q 6 0 V.length),(70,.i V.length),(71,.i (0:Nat))]) ?_ (by simp));refine Qm (P:=Tryz.prog) (F:=fun(u:Nat×Nat×List AObj)=>⟨[(14,.sl u.2.1 2 0 u.1),(69,.sl q 6 0 V.length),(70,.i V.length),(71,.i u.1)],u.2.2⟩)
   (fun u=>u.1≤V.length∧SL H u.2.2 u.2.1 66 2 (((V.take u.1).map (·.s)).map pqr)) (fun u=>V.length - u.1) ?_ (0,H.length,_) ⟨xE _,by simpa using hst⟩
  rintro⟨j,p,G⟩ ⟨hj,g⟩ ih;simp only at hj g ih ⊢;repeat first|(refine r_ ?_;simp)|refine q_ ?_
  refine Qa rfl (fun zq=> ?_) (fun zr=> ?_)
  ·have z7:j<V.length:=by simpa using zq
   have yq:IntKind.i64.wrap ((j:Int)+1)=j+1:=wrap_i64 _ (by omega) (by omega);have y3:(V.take (j+1)).map (·.s)=(V.take j).map (·.s)++[V[j].s]:=by rw[zJ z7,List.map_append];rfl
   have yr:((V.take j).map (·.s)).length=j:=by simp;omega
   have y4:=fun q' G'=>ih (j+1,q',G');simp only[y3]at y4;have zc:(V.map A9)[j]? =some (A9 V[j]):=by simp[z7]
   have zf:∀hh,(V.map A9)[j]'hh=A9 V[j]:=fun hh=>by simp
   clear y3;generalize (V.take j).map (·.s)=acc at *
   generalize V[j]=v at *
   have gq:=g.kp yp;have y6:(acc.map pqr).length=j:=by simp[yr]
   simp only[A9]at zc zf;repeat first|(refine r_ ?_;simp[gq,zc,zf,z7])|refine q_ ?_
   refine Qf tOk rfl rfl T41 rfl T66 rfl (by decide) (by decide) rfl rfl rfl ?_;simp[Qd g.arr,Qk g.arr,y6];refine⟨by simp[Wu,Qd g.arr,Qk g.arr,y6]<;>omega,?_⟩;repeat first|(refine r_ ?_;simp[yq])|refine q_ ?_
   refine Qb (sl':=[(14,.sl (G.length+2) 2 0 (j+1)),(69,.sl q 6 0 V.length),(70,.i V.length),(71,.i (j+1:Nat))]) ?_ (by simp);have:=y4 (G.length+2) _ ⟨by omega,g.put [AObj.vars [.i v.s.1,.i v.s.2,.i v.fr,.i v.on.ty,.i v.on.num,.bool v.fst],AObj.arr 66 2 [pqr v.s]] ((acc++[v.s]).map pqr) rfl⟩ (by omega);simpa[pqr]using this
  ·have yt:j=V.length:=by simp at zr;omega
   subst yt;rw[zX,y2]at g;have yu:(L.map (·.1)).length=V.length:=by rw[←y2];simp
   generalize L.map (·.1)=K at *
   rw[←yu];repeat first|(refine r_ ?_;simp)|refine q_ ?_
   refine We rfl rfl (v07 G p K g.arr (by omega)) rfl ?_;rintro _ _ ⟨rfl,K',hp,hs,rfl⟩;have yv:K'=Tn K:=y0o yn hp (hs.imp fun h=>v1t h);have yw:∀z,(G.set p z)[p]? =some z:=fun z=>Qq g.arr z;have xa:K'.length=K.length:=hp.length_eq;simp;repeat first|(refine r_ ?_;simp[yw])|refine q_ ?_
   rw[if_pos (by omega),zM (by simp;omega),yv];rfl
end Go.Abs
namespace Go.Abs
open Go Go.Proofs Go.Maps Go.RowKit
theorem w19(x y:Bool):PC Tryz.prog 70 [.bool x,.bool y] (fun r=>r= .bool (neB x y)):=by
 refine Qh tOk Tryz.func70 rfl Tryz.results70 rfl (by simp[Tryz.ntmps70]) ?_;rw[Tryz.ntmps70];simp only[Qe];repeat first|(refine r_ ?_;simp)|refine q_ ?_
 cases x<;>cases y<;>rfl
theorem c0a(x y:Bool):PC Tryz.prog 68 [.bool x,.bool y] (fun r=>r= .bool (neB x y)):=by
 refine Qh tOk Tryz.func68 rfl Tryz.results68 rfl (by simp[Tryz.ntmps68]) ?_;rw[Tryz.ntmps68];simp only[Qe];repeat first|(refine r_ ?_;simp)|refine q_ ?_
 cases x<;>cases y<;>rfl
theorem w1f(x y:Bool):PC Tryz.prog 87 [.bool x,.bool y] (fun r=>r= .bool (y1v x y)):=by
 refine Qh tOk Tryz.func87 rfl Tryz.results87 rfl (by simp[Tryz.ntmps87]) ?_;rw[Tryz.ntmps87];simp only[Qe];repeat first|(refine r_ ?_;simp)|refine q_ ?_
 cases x<;>cases y<;>rfl
def v1b(r:EqC×Int):AV:= .tup [Hl r.1,.i r.2]
def d00(r:(List Sy×Bool)×Int):AV:= .tup [LSy r.1.1,.bool r.1.2,.i r.2]
attribute [local irreducible] E8 Hg Tn Tv Eo Ro
theorem J5(a b:Aut):PC Tryz.prog 22 [encA a,encA b] (fun r=>r=v1b (Ml a b)):=by
 refine Qh tOk Tryz.func22 rfl Tryz.results22 rfl (by simp[Tryz.ntmps22]) ?_;rw[Tryz.ntmps22];simp only[Qe];obtain⟨R,hR⟩:∃R,Ml a b=R:=⟨_,rfl⟩
 rw[hR];unfold Ml at hR;have cF:=Jp a b;have z6:E8 a b=0→Dfa a∧Dfa b∧b.types=a.types:=fun h=>Yx.1 h;have z7:Tv a b=(Hg a b neB).2.map (·.1):=by unfold Tv;rfl
 rw[z7]at hR;simp only[encA]at cF ⊢;repeat first|(refine r_ ?_;simp)|refine q_ ?_
 refine Qc rfl rfl (by simp) (cF) rfl ?_;rintro _ rfl;simp;repeat first|(refine r_ ?_;simp)|refine q_ ?_
 refine Qa rfl (fun h=> ?_) (fun h=> ?_)
 ·have h':E8 a b≠0:=by simpa using h
  rw[if_pos h']at hR;subst hR;repeat first|(refine r_ ?_;simp)|refine q_ ?_
  rfl
 have h':E8 a b=0:=by simpa using h
 rw[if_neg (fun k=>k h')]at hR;obtain⟨ha,hb,ht⟩:=z6 h';have cS:=A5 a b ⟨ha.ok,ha.det⟩ ⟨hb.ok,hb.det⟩ ht neB 70 w19;obtain⟨⟨ow,L⟩,hS⟩:∃p,Hg a b neB=p:=⟨_,rfl⟩
 rw[hS]at hR cS;simp only[encA]at cS;cases ow with
 |some w=>
  simp only at hR;subst hR;repeat first|(refine r_ ?_;simp)|refine q_ ?_
  refine Qc rfl rfl (by simp) (cS) rfl ?_;rintro _ rfl;simp[Nu];repeat first|(refine r_ ?_;simp)|refine q_ ?_
  refine Qa rfl (fun _=> ?_) (fun h=>by simp at h);repeat first|(refine r_ ?_;simp)|refine q_ ?_
  rfl
 |none=>
  simp only at hR;have z1:=f1t (L.map (·.1));have z8:((Tn (L.map (·.1))).map pqr).length=(L.map (·.1)).length:=by rw[zV,z1]
  have cS2:PC Tryz.prog 67 [.agg [.i a.types,.list (a.fin.map .bool),.list (a.mv.map encMv)],.agg [.i b.types,.list (b.fin.map .bool),.list (b.mv.map encMv)],.fn (.func 70) [] []] (fun r=>r= .tup [.list [],.bool false,.list ((Tn (L.map (·.1))).map pqr)]):=cS;generalize L.map (·.1)=K at *
  generalize Tn K=K2 at *
  repeat first|(refine r_ ?_;simp)|refine q_ ?_
  refine Qc rfl rfl (by simp) (cS2) rfl ?_;rintro _ rfl;simp;repeat first|(refine r_ ?_;simp)|refine q_ ?_
  refine Qa rfl (fun h=>by simp at h) (fun _=> ?_);repeat first|(refine r_ ?_;simp[z1])|refine q_ ?_
  refine Qa rfl (fun h=> ?_) (fun h=> ?_)
  ·have h1:2048<K.length:=by simp at h;omega
   rw[if_pos h1]at hR;subst hR;repeat first|(refine r_ ?_;simp)|refine q_ ?_
   rfl
  ·have h1:¬2048<K.length:=by simp at h;omega
   rw[if_neg h1]at hR;subst hR;repeat first|(refine r_ ?_;simp)|refine q_ ?_
   rfl
def y1e(a b:Aut):Aut:=if Eo a b≠0 then O1 else(Ro a).2
def y1k(a b:Aut):Aut:=if Eo a b≠0 then O1 else if(Ro a).1≠0 then O1 else(Ro b).2
theorem g0x(a b:Aut):PC Tryz.prog 66 [encA a,encA b] (fun r=>r= .tup [encA (y1e a b),encA (y1k a b),.i (Tj a b)]):=by
 refine Qh tOk Tryz.func66 rfl Tryz.results66 rfl (by simp[Tryz.ntmps66]) ?_;rw[Tryz.ntmps66];simp only[Qe];have cB:=q00 a b;have cD:=Of a;have cE:=Of b;simp only[encA]at cB cD cE ⊢;obtain⟨X,hX⟩:∃X,y1e a b=X:=⟨_,rfl⟩
 obtain⟨Y,hY⟩:∃Y,y1k a b=Y:=⟨_,rfl⟩
 obtain⟨R,hR⟩:∃R,Tj a b=R:=⟨_,rfl⟩
 rw[hX,hY,hR];unfold y1e at hX;unfold y1k at hY;unfold Tj at hR;repeat first|(refine r_ ?_;simp)|refine q_ ?_
 refine Qc rfl rfl (by simp) (cB) rfl ?_;rintro _ rfl;simp;repeat first|(refine r_ ?_;simp)|refine q_ ?_
 refine Qa rfl (fun h=> ?_) (fun h=> ?_)
 ·have h':Eo a b≠0:=by simpa using h
  rw[if_pos h']at hX hY hR;subst hX;subst hY;subst hR;repeat first|(refine r_ ?_;simp)|refine q_ ?_
  refine Qj tOk mixed [3,4] (.val 0 (.val 2 (.two 1 (.one 3 (.one 4 (.val 5 (.done)))) 3 (.val 1 (.one 4 (.val 5 (.done))))))) rfl (by kernel_rfl) ?_;simp;repeat first|(refine r_ ?_;simp)|refine q_ ?_
  exact⟨rfl,rfl,rfl⟩
 have h':¬Eo a b≠0:=by simpa using h
 rw[if_neg h']at hX hY hR;repeat first|(refine r_ ?_;simp)|refine q_ ?_
 refine Qc rfl rfl (by simp) (cD) rfl ?_;rintro _ rfl;simp;repeat first|(refine r_ ?_;simp)|refine q_ ?_
 refine Qa rfl (fun h2=> ?_) (fun h2=> ?_)
 ·have z1:(Ro a).1≠0:=by simpa using h2
  rw[if_pos z1]at hY hR;subst hX;subst hY;subst hR;repeat first|(refine r_ ?_;simp)|refine q_ ?_
  refine Qj tOk mixed [3,4] (.val 0 (.val 2 (.two 1 (.one 3 (.one 4 (.val 5 (.done)))) 3 (.val 1 (.one 4 (.val 5 (.done))))))) rfl (by kernel_rfl) ?_;simp;repeat first|(refine r_ ?_;simp)|refine q_ ?_
  exact⟨rfl,rfl,rfl⟩
 rw[if_neg (by simpa using h2)]at hY hR;repeat first|(refine r_ ?_;simp)|refine q_ ?_
 refine Qc rfl rfl (by simp) (cE) rfl ?_;rintro _ rfl;simp;repeat first|(refine r_ ?_;simp)|refine q_ ?_
 refine Qj tOk mixed [3,4] (.val 0 (.val 2 (.two 1 (.one 3 (.one 4 (.val 5 (.done)))) 3 (.val 1 (.one 4 (.val 5 (.done))))))) rfl (by kernel_rfl) ?_;simp;repeat first|(refine r_ ?_;simp)|refine q_ ?_
 subst hX;subst hY;exact⟨⟨rfl,rfl,rfl⟩,⟨rfl,rfl,rfl⟩,hR⟩
theorem N1{a b:Aut}(h:Tj a b=0):Dta (Ro a).2∧Dta (Ro b).2∧(Ro b).2.types=(Ro a).2.types∧y1e a b=(Ro a).2∧y1k a b=(Ro b).2:=by
 have hb:Eo a b=0:=by
  by_cases k:Eo a b=0
  ·exact k
  ·unfold Tj at h;rw[if_pos k]at h;exact absurd h k
 obtain⟨h1,h2,h3⟩:=Ui.1 hb;obtain⟨d1,d2⟩:=(Ca hb).1 h;obtain⟨_,_,_,_,_,_,o1,o2,o3,_⟩:=I8 h1 (q0w d1);obtain⟨_,_,_,_,_,_,p1,p2,p3,_⟩:=I8 h2 (q0w d2);refine⟨⟨o1,o2⟩,⟨p1,p2⟩,by rw[p3,o3,h3],?_,?_⟩
 ·unfold y1e;rw[if_neg (by simpa using hb)]
 ·unfold y1k;rw[if_neg (by simpa using hb),if_neg (by simpa using d1)]
attribute [local irreducible] Tj y1e y1k
theorem X4(a b:Aut):PC Tryz.prog 32 [encA a,encA b] (fun r=>r=d00 (u1m a b)):=by
 refine Qh tOk Tryz.func32 rfl Tryz.results32 rfl (by simp[Tryz.ntmps32]) ?_;rw[Tryz.ntmps32];simp only[Qe];obtain⟨R,hR⟩:∃R,u1m a b=R:=⟨_,rfl⟩
 rw[hR];unfold u1m at hR;have cD:=g0x a b;have z1:Tj a b=0→_:=fun h=>N1 h;simp only[encA]at cD ⊢;repeat first|(refine r_ ?_;simp)|refine q_ ?_
 refine Qc rfl rfl (by simp) (cD) rfl ?_;rintro _ rfl;simp;repeat first|(refine r_ ?_;simp)|refine q_ ?_
 refine Qa rfl (fun h=> ?_) (fun h=> ?_)
 ·have h':Tj a b≠0:=by simpa using h
  rw[if_pos h']at hR;subst hR;repeat first|(refine r_ ?_;simp)|refine q_ ?_
  rfl
 have h':Tj a b=0:=by simpa using h
 rw[if_neg (fun k=>k h')]at hR;obtain⟨ha,hb,ht,hx,hy⟩:=z1 h';have cS:=A5 (Ro a).2 (Ro b).2 ha hb ht y1v 87 w1f;rw[←hx,←hy]at cS hR;generalize y1e a b=X at *;generalize y1k a b=Y at *
 obtain⟨⟨ow,L⟩,hS⟩:∃p,Hg X Y y1v=p:=⟨_,rfl⟩
 rw[hS]at hR cS;simp only[encA]at cS;cases ow with
 |some w=>
  simp only at hR;subst hR;repeat first|(refine r_ ?_;simp)|refine q_ ?_
  refine Qc rfl rfl (by simp) (cS) rfl ?_;rintro _ rfl;simp[Nu];repeat first|(refine r_ ?_;simp)|refine q_ ?_
  rfl
 |none=>
  simp only at hR;subst hR;repeat first|(refine r_ ?_;simp)|refine q_ ?_
  refine Qc rfl rfl (by simp) (cS) rfl ?_;rintro _ rfl;simp[Nu];repeat first|(refine r_ ?_;simp)|refine q_ ?_
  rfl
theorem Vb(a b:Aut):PC Tryz.prog 21 [encA a,encA b] (fun r=>r=d00 (x1n a b)):=by
 refine Qh tOk Tryz.func21 rfl Tryz.results21 rfl (by simp[Tryz.ntmps21]) ?_;rw[Tryz.ntmps21];simp only[Qe];obtain⟨R,hR⟩:∃R,x1n a b=R:=⟨_,rfl⟩
 rw[hR];unfold x1n at hR;have cD:=g0x a b;have z1:Tj a b=0→_:=fun h=>N1 h;simp only[encA]at cD ⊢;repeat first|(refine r_ ?_;simp)|refine q_ ?_
 refine Qc rfl rfl (by simp) (cD) rfl ?_;rintro _ rfl;simp;repeat first|(refine r_ ?_;simp)|refine q_ ?_
 refine Qa rfl (fun h=> ?_) (fun h=> ?_)
 ·have h':Tj a b≠0:=by simpa using h
  rw[if_pos h']at hR;subst hR;repeat first|(refine r_ ?_;simp)|refine q_ ?_
  rfl
 have h':Tj a b=0:=by simpa using h
 rw[if_neg (fun k=>k h')]at hR;obtain⟨ha,hb,ht,hx,hy⟩:=z1 h';have cS:=A5 (Ro a).2 (Ro b).2 ha hb ht neB 68 c0a;rw[←hx,←hy]at cS hR;generalize y1e a b=X at *;generalize y1k a b=Y at *
 obtain⟨⟨ow,L⟩,hS⟩:∃p,Hg X Y neB=p:=⟨_,rfl⟩
 rw[hS]at hR cS;simp only[encA]at cS;cases ow with
 |some w=>
  simp only at hR;subst hR;repeat first|(refine r_ ?_;simp)|refine q_ ?_
  refine Qc rfl rfl (by simp) (cS) rfl ?_;rintro _ rfl;simp[Nu];repeat first|(refine r_ ?_;simp)|refine q_ ?_
  rfl
 |none=>
  simp only at hR;subst hR;repeat first|(refine r_ ?_;simp)|refine q_ ?_
  refine Qc rfl rfl (by simp) (cS) rfl ?_;rintro _ rfl;simp[Nu];repeat first|(refine r_ ?_;simp)|refine q_ ?_
  rfl
end Go.Abs
namespace Go.Abs
open Go Go.Proofs Go.Maps Go.RowKit
theorem Y3(a b:Aut)(x:EqC):Yt a b x=if x.verdict≠1∧x.verdict≠2 then 1 else if(x.verdict=1∧0<x.word.length)∨(x.verdict=2∧0<x.pairs.length)then 3 else Z9 a b x:=by
 unfold Yt Z9
 congr
theorem Lo{a b:Aut}{x:EqC}(h:Z9 a b x=0):x.pairs.length≤2048∧x.word.length≤4096∧(∀s∈x.pairs,inS a s.1∧inS b s.2)∧Z7 a.types x.word=0:=by
 unfold Z9 at h;by_cases h1:2048<x.pairs.length∨4096<x.word.length
 ·rw[if_pos h1]at h;cases h
 rw[if_neg h1]at h;by_cases h2:x.pairs.all (fun s=>decide (inS a s.1∧inS b s.2))=false
 ·rw[if_pos h2]at h;cases h
 rw[if_neg h2]at h;rw[Bool.not_eq_false,List.all_eq_true]at h2;exact⟨by omega,by omega,fun s hs=>by simpa using h2 s hs,h⟩
attribute [local irreducible] E8 Z9 Pd Rz
theorem w0n(a b:Aut)(x:EqC):PC Tryz.prog 31 [encA a,encA b,Hl x] (fun r=>r= .i (Zz a b x)):=by
 refine Qh tOk Tryz.func31 rfl Tryz.results31 rfl (by simp[Tryz.ntmps31]) ?_;rw[Tryz.ntmps31];simp only[Qe];obtain⟨v,ps,w⟩:=x;have cF:=c0f a b;have cP:=x0s a b ⟨v,ps,w⟩;have zd:E8 a b=0→Dfa a∧Dfa b∧b.types=a.types:=fun h=>Yx.1 h;obtain⟨R,hR⟩:∃R,Zz a b ⟨v,ps,w⟩=R:=⟨_,rfl⟩
 rw[hR];unfold Zz at hR;simp only[encA,Hl]at cF cP hR ⊢;repeat first|(refine r_ ?_;simp)|refine q_ ?_
 refine Qc rfl rfl (by simp) (cF) rfl ?_;rintro _ rfl;simp;repeat first|(refine r_ ?_;simp)|refine q_ ?_
 refine Qa rfl (fun h=> ?_) (fun h=> ?_)
 ·have h':E8 a b≠0:=by simpa using h
  rw[if_pos h']at hR;subst hR;repeat first|(refine r_ ?_;simp)|refine q_ ?_
 have h':E8 a b=0:=by simpa using h
 rw[if_neg (fun k=>k h')]at hR;obtain⟨ha,hb,ht⟩:=zd h';have cTa:=fun h=>Xs a ha.ok w h;have cTb:=fun h=>Xs b hb.ok w h;have cC:=fun h=>y0q a b ha.ok hb.ok ht ps h;simp only[encA]at cTa cTb cC;by_cases z8:v=1
 ·subst z8;by_cases zb:0<w.length
  ·have z1:Yt a b ⟨1,ps,w⟩=3:=by rw[Y3,if_neg (by simp),if_pos (.inl ⟨rfl,zb⟩)]
   rw[z1,if_pos (by decide)]at hR;subst hR;repeat first|(refine r_ ?_;simp)|refine q_ ?_
   refine Qa rfl (fun h=>by simp at h) (fun _=> ?_);repeat first|(refine r_ ?_;simp[zb])|refine q_ ?_
   refine Qa rfl (fun _=> ?_) (fun h=>by first|(simp at h;done)|(simp at h;omega));repeat first|(refine r_ ?_;simp)|refine q_ ?_
  ·have ze:w=[]:=uz.1 (by omega);have z1:Yt a b ⟨1,ps,w⟩=Z9 a b ⟨1,ps,w⟩:=by rw[Y3,if_neg (by simp),if_neg (by simp[ze])]
   rw[z1]at hR;repeat first|(refine r_ ?_;simp)|refine q_ ?_
   refine Qa rfl (fun h=>by simp at h) (fun _=> ?_);repeat first|(refine r_ ?_;simp)|refine q_ ?_
   refine Qa rfl (fun h=>by first|(simp at h;done)|(simp at h;omega)) (fun _=> ?_);repeat first|(refine r_ ?_;simp)|refine q_ ?_
   refine Qc rfl rfl (by simp) (cP) rfl ?_;rintro _ rfl;simp;repeat first|(refine r_ ?_;simp)|refine q_ ?_
   refine Qa rfl (fun h4=> ?_) (fun h4=> ?_)
   ·have z6:Z9 a b ⟨1,ps,w⟩≠0:=by simpa using h4
    rw[if_pos z6]at hR;subst hR;repeat first|(refine r_ ?_;simp)|refine q_ ?_
   have z6:Z9 a b ⟨1,ps,w⟩=0:=by simpa using h4
   rw[if_neg (fun k=>k z6)]at hR;obtain⟨e1,e2,e3,e4⟩:=Lo z6;simp only at e1 e2 e3 e4;repeat first|(refine r_ ?_;simp)|refine q_ ?_
   refine Qj tOk mixed [] (.val 0 (.val 1 (.val 2 (.val 3 (.val 4 (.val 5 (.val 6 (.val 7 (.one 8 (.val 9 (.val 10 (.val 11 (.val 12 (.val 13 (.val 14 (.val 15 (.val 16 (.val 17 (.val 18 (.val 20 (.val 21 (.val 22 (.one 19 (.one 23 (.val 24 (.val 25 (.val 26 (.done)))))))))))))))))))))))))))) rfl (by kernel_rfl) ?_;simp;have z7:=cC e3;cases hc:Pd a b ps
   ·rw[hc]at hR z7;refine Qc rfl rfl (by simp) (z7) rfl ?_;rintro _ rfl;simp;refine Qx rfl rfl ?_;simp;refine Qx rfl rfl ?_;simp;repeat first|(refine r_ ?_;simp)|refine q_ ?_
    refine Qa rfl (fun _=> ?_) (fun h=>by simp at h);simp at hR;subst hR;repeat first|(refine r_ ?_;simp)|refine q_ ?_
   ·rw[hc]at hR z7;refine Qc rfl rfl (by simp) (z7) rfl ?_;rintro _ rfl;simp;refine Qx rfl rfl ?_;simp;refine Qx rfl rfl ?_;simp;repeat first|(refine r_ ?_;simp)|refine q_ ?_
    refine Qa rfl (fun h=>by simp at h) (fun _=> ?_);simp at hR;subst hR;repeat first|(refine r_ ?_;simp)|refine q_ ?_
 ·by_cases za:v=2
  ·subst za;by_cases zc:0<ps.length
   ·have z1:Yt a b ⟨2,ps,w⟩=3:=by rw[Y3,if_neg (by simp),if_pos (.inr ⟨rfl,zc⟩)]
    rw[z1,if_pos (by decide)]at hR;subst hR;repeat first|(refine r_ ?_;simp)|refine q_ ?_
    refine Qa rfl (fun h=>by simp at h) (fun _=> ?_);repeat first|(refine r_ ?_;simp[zc])|refine q_ ?_
    refine Qa rfl (fun _=> ?_) (fun h=>by first|(simp at h;done)|(simp at h;omega));repeat first|(refine r_ ?_;simp)|refine q_ ?_
   ·have zf:ps=[]:=uz.1 (by omega);have z1:Yt a b ⟨2,ps,w⟩=Z9 a b ⟨2,ps,w⟩:=by rw[Y3,if_neg (by simp),if_neg (by simp[zf])]
    rw[z1]at hR;repeat first|(refine r_ ?_;simp)|refine q_ ?_
    refine Qa rfl (fun h=>by simp at h) (fun _=> ?_);repeat first|(refine r_ ?_;simp)|refine q_ ?_
    refine Qa rfl (fun h=>by first|(simp at h;done)|(simp at h;omega)) (fun _=> ?_);repeat first|(refine r_ ?_;simp)|refine q_ ?_
    refine Qc rfl rfl (by simp) (cP) rfl ?_;rintro _ rfl;simp;repeat first|(refine r_ ?_;simp)|refine q_ ?_
    refine Qa rfl (fun h4=> ?_) (fun h4=> ?_)
    ·have z6:Z9 a b ⟨2,ps,w⟩≠0:=by simpa using h4
     rw[if_pos z6]at hR;subst hR;repeat first|(refine r_ ?_;simp)|refine q_ ?_
    have z6:Z9 a b ⟨2,ps,w⟩=0:=by simpa using h4
    rw[if_neg (fun k=>k z6)]at hR;obtain⟨e1,e2,e3,e4⟩:=Lo z6;simp only at e1 e2 e3 e4;repeat first|(refine r_ ?_;simp)|refine q_ ?_
    refine Qj tOk mixed [] (.val 0 (.val 1 (.val 2 (.val 3 (.val 4 (.val 5 (.val 6 (.val 7 (.one 8 (.val 9 (.val 10 (.val 11 (.val 12 (.val 13 (.val 14 (.val 15 (.val 16 (.val 17 (.val 18 (.val 20 (.val 21 (.val 22 (.one 19 (.one 23 (.val 24 (.val 25 (.val 26 (.done)))))))))))))))))))))))))))) rfl (by kernel_rfl) ?_;simp;refine Qx rfl rfl ?_;simp;refine Qc rfl rfl (by simp) (cTa (by omega)) rfl ?_;rintro _ rfl;simp;refine Qc rfl rfl (by simp) (cTb (by omega)) rfl ?_;rintro _ rfl;simp;repeat first|(refine r_ ?_;simp)|refine q_ ?_
    refine Qa rfl (fun h=> ?_) (fun h=> ?_)
    ·have h':Rz a w=Rz b w:=by simpa using h
     simp[h']at hR;subst hR;repeat first|(refine r_ ?_;simp)|refine q_ ?_
    ·have h':¬Rz a w=Rz b w:=by simpa using h
     simp[h']at hR;subst hR;repeat first|(refine r_ ?_;simp)|refine q_ ?_
  ·have z1:Yt a b ⟨v,ps,w⟩=1:=by rw[Y3,if_pos ⟨z8,za⟩]
   rw[z1,if_pos (by decide)]at hR;subst hR;have b1:(v != 1)=true:=by simpa using z8
   have b2:(v != 2)=true:=by simpa using za
   repeat first|(refine r_ ?_;simp[b1,b2])|refine q_ ?_
   refine Qa rfl (fun _=> ?_) (fun h=>by simp at h);repeat first|(refine r_ ?_;simp)|refine q_ ?_
theorem k00(w:List Sy):PC Tryz.prog 83 [LSy w,LSy w] (fun r=>r= .bool true):=by
 refine Qh tOk Tryz.func83 rfl Tryz.results83 rfl (by simp[Tryz.ntmps83]) ?_;rw[Tryz.ntmps83];simp only[Qe];refine Rq 0 rfl (fun hlen=> ?_);rw[zV]at hlen;repeat first|(refine r_ ?_;simp)|refine q_ ?_
 refine Qa rfl (fun h=>by simp at h) (fun _=> ?_);repeat first|(refine r_ ?_;simp)|refine q_ ?_
 refine Qr w.length (fun _=>True) (fun j=>[(0,LSy w),(1,LSy w),(4,.bool false),(5,.i j)]) (fun _=>[]) rfl (by simp) (by simp) (by simp) (by simp) trivial ?_;intro j hj _ ih;repeat first|(refine r_ ?_;simp)|refine q_ ?_
 refine Qa rfl (fun za=> ?_) (fun zb=> ?_)
 ·have z1:j<w.length:=by simpa using za
  have hw:IntKind.i64.wrap ((j:Int)+1)=j+1:=wrap_i64 _ (by omega) (by omega);have z7:(w.map encSy)[j]? =some (encSy w[j]):=by simp[z1]
  have z8:∀hh,(w.map encSy)[j]'hh=encSy w[j]:=fun hh=>by simp
  generalize w[j]=x at *;simp only[encSy]at z7 z8
  repeat first|(refine r_ ?_;simp)|refine q_ ?_
  refine Qj tOk mixed [] (.val 0 (.val 1 (.val 2 (.val 3 (.val 4 (.val 5 (.val 6 (.val 7 (.val 8 (.done)))))))))) rfl (by kernel_rfl) ?_;simp[z7,z8,z1];refine Qa rfl (fun h=>by simp at h) (fun _=> ?_);repeat first|(refine r_ ?_;simp[hw])|refine q_ ?_
  refine Qo _ (ih z1 trivial) rfl (by simp) ?_ (by simp) (by simp);simp
 ·have z6:j=w.length:=by simp at zb;omega
  subst z6;repeat first|(refine r_ ?_;simp)|refine q_ ?_
theorem q02(x:EqC):PC Tryz.prog 30 [Hl x,Hl x] (fun r=>r= .bool true):=by
 refine Qh tOk Tryz.func30 rfl Tryz.results30 rfl (by simp[Tryz.ntmps30]) ?_;rw[Tryz.ntmps30];simp only[Qe];obtain⟨v,ps,w⟩:=x;simp only[Hl];refine Wd 0 1 rfl rfl (fun hlen=> ?_);rw[zV]at hlen;repeat first|(refine r_ ?_;simp)|refine q_ ?_
 refine Qc rfl rfl (by simp) (k00 w) rfl ?_;rintro _ rfl;simp;repeat first|(refine r_ ?_;simp)|refine q_ ?_
 refine Qa rfl (fun h=>by simp at h) (fun _=> ?_);repeat first|(refine r_ ?_;simp)|refine q_ ?_
 refine Qr ps.length (fun _=>True) (fun j=>[(2,.vptr 0 0),(3,.vptr 1 0),(4,.bool false),(5,.i j)]) (fun _=>[.vars [.i v,LQp ps,LSy w],.vars [.i v,LQp ps,LSy w]]) rfl (by simp) (by simp) (by simp) (by simp) trivial ?_;intro j hj _ ih;repeat first|(refine r_ ?_;simp)|refine q_ ?_
 refine Qa rfl (fun za=> ?_) (fun zb=> ?_)
 ·have z1:j<ps.length:=by simpa using za
  have hw:IntKind.i64.wrap ((j:Int)+1)=j+1:=wrap_i64 _ (by omega) (by omega);have z7:(ps.map pqr)[j]? =some (pqr ps[j]):=by simp[z1]
  have z8:∀hh,(ps.map pqr)[j]'hh=pqr ps[j]:=fun hh=>by simp
  generalize ps[j]=x at *;simp only[pqr]at z7 z8
  repeat first|(refine r_ ?_;simp)|refine q_ ?_
  refine Qj tOk mixed [] (.val 0 (.val 1 (.val 2 (.val 3 (.val 4 (.val 5 (.val 6 (.val 7 (.val 8 (.val 9 (.val 10 (.done)))))))))))) rfl (by kernel_rfl) ?_;simp[z7,z8,z1,y1h];refine Qa rfl (fun h=>by simp at h) (fun _=> ?_);repeat first|(refine r_ ?_;simp[hw])|refine q_ ?_
  refine Qo _ (ih z1 trivial) rfl (by simp) ?_ (by simp) (by simp);simp
 ·have z6:j=ps.length:=by simp at zb;omega
  subst z6;repeat first|(refine r_ ?_;simp)|refine q_ ?_
end Go.Abs
