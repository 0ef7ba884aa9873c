/- Part Sk of the proof: an abstract machine over the model, and what the functions of the program hand back in its terms. No condition. -/
import Derived.Test.YtjmkolhkojgjpaaGreatDoorSj
import Derived.Test.YtjmkolhkojgjpaaGreatDoorSg
import Derived.Test.YtjmkolhkojgjpaaGreatDoorSi
import Derived.Test.YtjmkolhkojgjpaaGreatDoorSf
import Derived.Test.YtjmkolhkojgjpaaGreatDoorSb
import Derived.Test.YtjmkolhkojgjpaaGreatDoorSc
import Derived.Lay
import Derived.LaidSub
import Derived.Deep.DeepWitnessRowRef
import Derived.Test.YtjmkolhkojgjpaaGreatDoorCards
import Derived.Test.YtjmkolhkojgjpaaGreatDoorTie
import Derived.Lib.LaidTab
import Derived.Test.YtjmkolhkojgjpaaGreatDoorSe
import Derived.Test.YtjmkolhkojgjpaaGreatDoorSd
import Derived.Shelf.Vars
set_option linter.all false
open List renaming length_map→zV,getElem?_append_right→zC,take_length→zX,map→xH,drop_length→yS,all_eq_false→wS,all_eq_true→zP,range→yD,map_cons→yK,map_nil→xN
open Bool renaming eq_iff_iff→yV,and_eq_true→zR
open Nat renaming le_of_lt→tE
set_option maxHeartbeats 16000000
set_option linter.unusedSimpArgs false
set_option maxRecDepth 100000
namespace Go.Abs
open Go Go.Proofs Go.Maps Go.RowKit
theorem Ag(a:Aut)(n:Int):PC Tryz.prog 135 [encA a,.i n] (fun r=>r= .bool (decide (inS a n))):=by
 refine Qh tOk Tryz.func135 rfl Tryz.results135 rfl (by simp[Tryz.ntmps135]) ?_;rw[Tryz.ntmps135];simp only[Qe];simp only[encA];refine Wd 0 1 rfl rfl (fun hl=> ?_);rw[zV]at hl;unfold inS;rcases Ze a.fin.length n with⟨c1,c2⟩|⟨c1,c2,c3⟩|⟨c1,c2,c3⟩
 ·have e1:decide (0≤n)=false:=by simpa using c1
  repeat first|(refine r_ ?_;simp[e1])|refine q_ ?_
  exact decide_eq_false c2
 ·have e1:decide (0≤n)=true:=by simpa using c1
  have e2:decide (n<(a.fin.length:Int))=false:=by simpa using c2
  repeat first|(refine r_ ?_;simp[e1,e2])|refine q_ ?_
  exact decide_eq_false c3
 ·have e1:decide (0≤n)=true:=by simpa using c1
  have e2:decide (n<(a.fin.length:Int))=true:=by simpa using c2
  repeat first|(refine r_ ?_;simp[e1,e2])|refine q_ ?_
  exact decide_eq_true c3
theorem Sw(a b:Aut)(p q:Int):decide (inS a p∧inS b q)=(decide (inS a p) && decide (inS b q)):=by rw[yV,zR,decide_eq_true_eq,decide_eq_true_eq,decide_eq_true_eq]
attribute [local irreducible] Az Wg Zx inS
theorem v0v(a b:Aut)(x:EqC)(hT:1≤a.types∧a.types≤16):PC Tryz.prog 71 [encA a,encA b,Hl x] (fun r=>r= .i (Yt a b x)):=by
 refine Qh tOk Tryz.func71 rfl Tryz.results71 rfl (by simp[Tryz.ntmps71]) ?_;rw[Tryz.ntmps71];simp only[Qe];simp only[encA,Hl];refine Wd 2 1 rfl rfl (fun zk=> ?_);refine Wd 2 2 rfl rfl (fun zl=> ?_);rw[zV]at zk zl;obtain⟨v,ps,w⟩:=x;simp only at zk zl ⊢;obtain⟨R,hR⟩:∃R,Yt a b ⟨v,ps,w⟩=R:=⟨_,rfl⟩
 rw[hR];rw[Y3]at hR;simp only at hR;by_cases hv:v≠1∧v≠2
 ·rw[if_pos hv]at hR;subst hR;have b1:(v != 1)=true:=by simpa using hv.1
  have b2:(v != 2)=true:=by simpa using hv.2
  repeat first|(refine r_ ?_;simp[b1,b2])|refine q_ ?_
  refine Qa rfl (fun _=> ?_) (fun h=>by simp at h);repeat first|(refine r_ ?_;simp)|refine q_ ?_
 rw[if_neg hv]at hR;by_cases hn:(v=1∧0<w.length)∨(v=2∧0<ps.length)
 ·rw[if_pos hn]at hR;subst hR;rcases hn with⟨rfl,h0⟩|⟨rfl,h0⟩
  ·repeat first|(refine r_ ?_;simp)|refine q_ ?_
   refine Qa rfl (fun h=>by simp at h) (fun _=> ?_);repeat first|(refine r_ ?_;simp[h0])|refine q_ ?_
   refine Qa rfl (fun _=> ?_) (fun h=>by first|(simp at h;done)|(simp at h;omega));repeat first|(refine r_ ?_;simp)|refine q_ ?_
  ·repeat first|(refine r_ ?_;simp)|refine q_ ?_
   refine Qa rfl (fun h=>by simp at h) (fun _=> ?_);repeat first|(refine r_ ?_;simp[h0])|refine q_ ?_
   refine Qa rfl (fun _=> ?_) (fun h=>by first|(simp at h;done)|(simp at h;omega));repeat first|(refine r_ ?_;simp)|refine q_ ?_
 rw[if_neg hn]at hR;have zm:v=1∨v=2:=by omega
 rcases zm with rfl|rfl
 ·have zn:¬0<w.length:=fun h=>hn (.inl ⟨rfl,h⟩);have zo:decide (0<w.length)=false:=decide_eq_false zn;repeat first|(refine r_ ?_;simp)|refine q_ ?_
  refine Qa rfl (fun h=>by simp at h) (fun _=> ?_);repeat first|(refine r_ ?_;simp[zo])|refine q_ ?_
  refine Qa rfl (fun h=>by first|(simp at h;done)|(simp at h;omega)) (fun _=> ?_);repeat first|(refine r_ ?_;simp)|refine q_ ?_
  unfold Z9 at hR;simp only at hR;by_cases h1:2048<ps.length
  ·rw[if_pos (.inl h1)]at hR;subst hR;have d1:decide ((2048:Int)<ps.length)=true:=by simp;omega
   repeat first|(refine r_ ?_;simp[d1])|refine q_ ?_
   refine Qa rfl (fun _=> ?_) (fun h=>by first|(simp at h;done)|(simp at h;omega));repeat first|(refine r_ ?_;simp)|refine q_ ?_
  have d1:decide ((2048:Int)<ps.length)=false:=by simp;omega
  by_cases h2:4096<w.length
  ·rw[if_pos (.inr h2)]at hR;subst hR;repeat first|(refine r_ ?_;simp[d1])|refine q_ ?_
   refine Qa rfl (fun _=> ?_) (fun h=>by first|(simp at h;done)|(simp at h;omega));repeat first|(refine r_ ?_;simp)|refine q_ ?_
  rw[if_neg (by omega)]at hR;repeat first|(refine r_ ?_;simp[d1])|refine q_ ?_
  refine Qa rfl (fun h=>by first|(simp at h;done)|(simp at h;omega)) (fun _=> ?_);repeat first|(refine r_ ?_;simp)|refine q_ ?_
  refine Q3 (sl':=[(3,.vptr 0 0),(4,.vptr 1 0),(5,.vptr 2 0),(7,.fn (.func 135) [] []),(58,LQp ps),(59,.i ps.length),(60,.i (0:Nat))]) ?_ (by simp);refine Ql ?_;refine Qm (P:=Tryz.prog) (F:=fun(u:Nat×List AObj)=>⟨[(3,.vptr 0 0),(4,.vptr 1 0),(5,.vptr 2 0),(7,.fn (.func 135) [] []),(58,LQp ps),(59,.i ps.length),(60,.i u.1)],u.2⟩)
   (fun u=>u.1≤ps.length∧(ps.take u.1).all (fun s=>decide (inS a s.1∧inS b s.2))=true∧u.2[0]? =some (.vars (Qp a))∧u.2[1]? =some (.vars (Qp b))∧u.2[2]? =some (.vars [.i 1,LQp ps,LSy w])) (fun u=>ps.length - u.1) ?_ (0,_) ⟨by simp,by simp,rfl,rfl,rfl⟩
  rintro⟨n,H⟩ ⟨hn,hI,g0,g1,g2⟩ ih;simp only at hn hI g0 g1 g2 ih ⊢;repeat first|(refine r_ ?_;simp)|refine q_ ?_
  refine Qa rfl (fun zg=> ?_) (fun zh=> ?_)
  ·have z6:n<ps.length:=by simpa using zg
   have hw:IntKind.i64.wrap ((n:Int)+1)=n+1:=wrap_i64 _ (by omega) (by omega);have za:(ps.map pqr)[n]? =some (pqr ps[n]):=by simp[z6]
   have zb:∀hh,(ps.map pqr)[n]'hh=pqr ps[n]:=fun hh=>by simp
   have zc:=P6 z6 hI;have z8:=all_false (p:=fun s:Int×Int=>decide (inS a s.1∧inS b s.2)) z6;generalize ps[n]=s at *
   obtain⟨p,q⟩:=s;simp only[pqr]at za zb;simp only[Sw]at zc z8;have k0:=Qd g0 [AObj.vars [.i p,.i q]];have k1:=Qd g1 [AObj.vars [.i p,.i q]];have k2:=Qd g2 [AObj.vars [.i p,.i q]];have kx:(H++[AObj.vars [.i p,.i q]])[H.length]? =some (.vars [.i p,.i q]):=by rw[zC (by simp)];simp
   have cA:=Ag a p;have cB:=Ag b q;simp only[encA]at cA cB;refine Yi ?_;simp;refine W8 ?_;refine Rw ?_;refine W8 (En tOk rfl ?_);simp[za,zb,z6];generalize H++[AObj.vars [AV.i p,AV.i q]]=H1 at *;clear g0 g1 g2;generalize H.length=X at *
   cases hA:decide (inS a p)
   ·rw[hA]at zc z8 cA;simp only[Sw]at hR;rw[if_pos (z8 rfl)]at hR;subst hR;repeat first|(refine r_ ?_;simp[k0,k1,kx])|refine q_ ?_
    refine Qc rfl rfl (by simp) (cA) rfl ?_;rintro _ rfl;simp[k0,k1,kx];refine Qx rfl rfl ?_;simp;repeat first|(refine r_ ?_;simp)|refine q_ ?_
    refine Qa rfl (fun _=> ?_) (fun h=>by simp at h);repeat first|(refine r_ ?_;simp)|refine q_ ?_
   ·rw[hA]at zc z8 cA;cases hB:decide (inS b q)
    ·rw[hB]at z8 cB;simp only[Sw]at hR;rw[if_pos (z8 rfl)]at hR;subst hR;repeat first|(refine r_ ?_;simp[k0,k1,kx])|refine q_ ?_
     refine Qc rfl rfl (by simp) (cA) rfl ?_;rintro _ rfl;simp[k0,k1,kx];refine Qc rfl rfl (by simp) (cB) rfl ?_;rintro _ rfl;simp[k0,k1,kx];repeat first|(refine r_ ?_;simp)|refine q_ ?_
     refine Qa rfl (fun _=> ?_) (fun h=>by simp at h);repeat first|(refine r_ ?_;simp)|refine q_ ?_
    ·rw[hB]at zc cB;repeat first|(refine r_ ?_;simp[k0,k1,kx])|refine q_ ?_
     refine Qc rfl rfl (by simp) (cA) rfl ?_;rintro _ rfl;simp[k0,k1,kx];refine Qc rfl rfl (by simp) (cB) rfl ?_;rintro _ rfl;simp[k0,k1,kx];repeat first|(refine r_ ?_;simp)|refine q_ ?_
     refine Qa rfl (fun h=>by simp at h) (fun _=> ?_);repeat first|(refine r_ ?_;simp[hw])|refine q_ ?_
     refine Qb (sl':=[(3,.vptr 0 0),(4,.vptr 1 0),(5,.vptr 2 0),(7,.fn (.func 135) [] []),(58,LQp ps),(59,.i ps.length),(60,.i (n+1:Nat))]) ?_ (by simp);exact ih (n+1,H1) ⟨by simp only;omega,by simp only[Sw];exact zc,k0,k1,k2⟩ (by simp only;omega)
  ·have zd:n=ps.length:=by simp at zh;omega
   subst zd;rw[zX]at hI;rw[hI,if_neg (by simp)]at hR;clear ih;refine Q3 (sl':=[(3,.vptr 0 0),(4,.vptr 1 0),(5,.vptr 2 0)]) ?_ (by simp);repeat first|(refine r_ ?_;simp[g0])|refine q_ ?_
   refine Qc rfl rfl (by simp) (k09 a.types hT.1 hT.2) rfl ?_;rintro _ rfl;simp;have k2:=Qd g2 [AObj.vars [AV.list (xH encL (Wg a.types.toNat))]];have kp:(H++[AObj.vars [AV.list (xH encL (Wg a.types.toNat))]])[H.length]? =some (.vars [.list ((Wg a.types.toNat).map encL)]):=by rw[zC (by simp)];simp
   generalize H++[AObj.vars [AV.list (xH encL (Wg a.types.toNat))]]=H1 at *;clear g0 g1 g2;generalize H.length=X at *;clear H
   repeat first|(refine r_ ?_;simp[k2])|refine q_ ?_
   refine Q3 (sl':=[(10,.vptr X 0),(86,LSy w),(87,.i w.length),(88,.i (0:Nat))]) ?_ (by simp);refine Ql ?_;refine Qm (P:=Tryz.prog) (F:=fun(u:Nat×List AObj)=>⟨[(10,.vptr X 0),(86,LSy w),(87,.i w.length),(88,.i u.1)],u.2⟩)
    (fun u=>u.1≤w.length∧Z7 a.types (w.drop u.1)=R∧u.2[X]? =some (.vars [.list ((Wg a.types.toNat).map encL)])) (fun u=>w.length - u.1) ?_ (0,_) ⟨by simp,by simpa using hR,kp⟩
   clear k2 kp hR;rintro⟨j,H⟩ ⟨hj,z7,kp⟩ ih;simp only at hj z7 kp ih ⊢;repeat first|(refine r_ ?_;simp)|refine q_ ?_
   refine Qa rfl (fun ze=> ?_) (fun zf=> ?_)
   ·have z1:j<w.length:=by simpa using ze
    have zi:IntKind.i64.wrap ((j:Int)+1)=j+1:=wrap_i64 _ (by omega) (by omega);rw[Wo z1,Z7]at z7;have za:(w.map encSy)[j]? =some (encSy w[j]):=by simp[z1]
    have zb:∀hh,(w.map encSy)[j]'hh=encSy w[j]:=fun hh=>by simp
    generalize w[j]=y at *
    have cC:=Ta (Wg a.types.toNat) y;rw[A1 a.types hT]at cC;simp only[encSy,encP]at za zb cC;have kq:=Qd kp [AObj.vars [.i y.ty,.i y.num]];have ky:(H++[AObj.vars [.i y.ty,.i y.num]])[H.length]? =some (.vars [.i y.ty,.i y.num]):=by rw[zC (by simp)];simp
    refine Yi ?_;simp;refine W8 ?_;refine Rw ?_;refine W8 (En tOk rfl ?_);simp[za,zb,z1];generalize H++[AObj.vars [.i y.ty,.i y.num]]=H1 at *;clear kp;generalize H.length=Y at *
    repeat first|(refine r_ ?_;simp[kq,ky])|refine q_ ?_
    refine Qc rfl rfl (by simp) (cC) rfl ?_;rintro _ rfl;simp;repeat first|(refine r_ ?_;simp)|refine q_ ?_
    refine Qa rfl (fun h=> ?_) (fun h=> ?_)
    ·rw[if_pos (by simpa using h)]at z7;subst z7;repeat first|(refine r_ ?_;simp)|refine q_ ?_
    ·rw[if_neg (by simpa using h)]at z7;repeat first|(refine r_ ?_;simp[zi])|refine q_ ?_
     refine Qb (sl':=[(10,.vptr X 0),(86,LSy w),(87,.i w.length),(88,.i (j+1:Nat))]) ?_ (by simp);exact ih (j+1,H1) ⟨by simp only;omega,z7,kq⟩ (by simp only;omega)
   ·have zj:j=w.length:=by simp at zf;omega
    subst zj;rw[yS]at z7;subst z7;repeat first|(refine r_ ?_;simp)|refine q_ ?_
    rfl
 ·have zp:¬0<ps.length:=fun h=>hn (.inr ⟨rfl,h⟩);have zq:decide (0<ps.length)=false:=decide_eq_false zp;repeat first|(refine r_ ?_;simp)|refine q_ ?_
  refine Qa rfl (fun h=>by simp at h) (fun _=> ?_);repeat first|(refine r_ ?_;simp[zq])|refine q_ ?_
  refine Qa rfl (fun h=>by first|(simp at h;done)|(simp at h;omega)) (fun _=> ?_);repeat first|(refine r_ ?_;simp)|refine q_ ?_
  unfold Z9 at hR;simp only at hR;by_cases h1:2048<ps.length
  ·rw[if_pos (.inl h1)]at hR;subst hR;have d1:decide ((2048:Int)<ps.length)=true:=by simp;omega
   repeat first|(refine r_ ?_;simp[d1])|refine q_ ?_
   refine Qa rfl (fun _=> ?_) (fun h=>by first|(simp at h;done)|(simp at h;omega));repeat first|(refine r_ ?_;simp)|refine q_ ?_
  have d1:decide ((2048:Int)<ps.length)=false:=by simp;omega
  by_cases h2:4096<w.length
  ·rw[if_pos (.inr h2)]at hR;subst hR;repeat first|(refine r_ ?_;simp[d1])|refine q_ ?_
   refine Qa rfl (fun _=> ?_) (fun h=>by first|(simp at h;done)|(simp at h;omega));repeat first|(refine r_ ?_;simp)|refine q_ ?_
  rw[if_neg (by omega)]at hR;repeat first|(refine r_ ?_;simp[d1])|refine q_ ?_
  refine Qa rfl (fun h=>by first|(simp at h;done)|(simp at h;omega)) (fun _=> ?_);repeat first|(refine r_ ?_;simp)|refine q_ ?_
  refine Q3 (sl':=[(3,.vptr 0 0),(4,.vptr 1 0),(5,.vptr 2 0),(7,.fn (.func 135) [] []),(58,LQp ps),(59,.i ps.length),(60,.i (0:Nat))]) ?_ (by simp);refine Ql ?_;refine Qm (P:=Tryz.prog) (F:=fun(u:Nat×List AObj)=>⟨[(3,.vptr 0 0),(4,.vptr 1 0),(5,.vptr 2 0),(7,.fn (.func 135) [] []),(58,LQp ps),(59,.i ps.length),(60,.i u.1)],u.2⟩)
   (fun u=>u.1≤ps.length∧(ps.take u.1).all (fun s=>decide (inS a s.1∧inS b s.2))=true∧u.2[0]? =some (.vars (Qp a))∧u.2[1]? =some (.vars (Qp b))∧u.2[2]? =some (.vars [.i 2,LQp ps,LSy w])) (fun u=>ps.length - u.1) ?_ (0,_) ⟨by simp,by simp,rfl,rfl,rfl⟩
  rintro⟨n,H⟩ ⟨hn,hI,g0,g1,g2⟩ ih;simp only at hn hI g0 g1 g2 ih ⊢;repeat first|(refine r_ ?_;simp)|refine q_ ?_
  refine Qa rfl (fun zg=> ?_) (fun zh=> ?_)
  ·have z6:n<ps.length:=by simpa using zg
   have hw:IntKind.i64.wrap ((n:Int)+1)=n+1:=wrap_i64 _ (by omega) (by omega);have za:(ps.map pqr)[n]? =some (pqr ps[n]):=by simp[z6]
   have zb:∀hh,(ps.map pqr)[n]'hh=pqr ps[n]:=fun hh=>by simp
   have zc:=P6 z6 hI;have z8:=all_false (p:=fun s:Int×Int=>decide (inS a s.1∧inS b s.2)) z6;generalize ps[n]=s at *
   obtain⟨p,q⟩:=s;simp only[pqr]at za zb;simp only[Sw]at zc z8;have k0:=Qd g0 [AObj.vars [.i p,.i q]];have k1:=Qd g1 [AObj.vars [.i p,.i q]];have k2:=Qd g2 [AObj.vars [.i p,.i q]];have kx:(H++[AObj.vars [.i p,.i q]])[H.length]? =some (.vars [.i p,.i q]):=by rw[zC (by simp)];simp
   have cA:=Ag a p;have cB:=Ag b q;simp only[encA]at cA cB;refine Yi ?_;simp;refine W8 ?_;refine Rw ?_;refine W8 (En tOk rfl ?_);simp[za,zb,z6];generalize H++[AObj.vars [AV.i p,AV.i q]]=H1 at *;clear g0 g1 g2;generalize H.length=X at *
   cases hA:decide (inS a p)
   ·rw[hA]at zc z8 cA;simp only[Sw]at hR;rw[if_pos (z8 rfl)]at hR;subst hR;repeat first|(refine r_ ?_;simp[k0,k1,kx])|refine q_ ?_
    refine Qc rfl rfl (by simp) (cA) rfl ?_;rintro _ rfl;simp[k0,k1,kx];refine Qx rfl rfl ?_;simp;repeat first|(refine r_ ?_;simp)|refine q_ ?_
    refine Qa rfl (fun _=> ?_) (fun h=>by simp at h);repeat first|(refine r_ ?_;simp)|refine q_ ?_
   ·rw[hA]at zc z8 cA;cases hB:decide (inS b q)
    ·rw[hB]at z8 cB;simp only[Sw]at hR;rw[if_pos (z8 rfl)]at hR;subst hR;repeat first|(refine r_ ?_;simp[k0,k1,kx])|refine q_ ?_
     refine Qc rfl rfl (by simp) (cA) rfl ?_;rintro _ rfl;simp[k0,k1,kx];refine Qc rfl rfl (by simp) (cB) rfl ?_;rintro _ rfl;simp[k0,k1,kx];repeat first|(refine r_ ?_;simp)|refine q_ ?_
     refine Qa rfl (fun _=> ?_) (fun h=>by simp at h);repeat first|(refine r_ ?_;simp)|refine q_ ?_
    ·rw[hB]at zc cB;repeat first|(refine r_ ?_;simp[k0,k1,kx])|refine q_ ?_
     refine Qc rfl rfl (by simp) (cA) rfl ?_;rintro _ rfl;simp[k0,k1,kx];refine Qc rfl rfl (by simp) (cB) rfl ?_;rintro _ rfl;simp[k0,k1,kx];repeat first|(refine r_ ?_;simp)|refine q_ ?_
     refine Qa rfl (fun h=>by simp at h) (fun _=> ?_);repeat first|(refine r_ ?_;simp[hw])|refine q_ ?_
     refine Qb (sl':=[(3,.vptr 0 0),(4,.vptr 1 0),(5,.vptr 2 0),(7,.fn (.func 135) [] []),(58,LQp ps),(59,.i ps.length),(60,.i (n+1:Nat))]) ?_ (by simp);exact ih (n+1,H1) ⟨by simp only;omega,by simp only[Sw];exact zc,k0,k1,k2⟩ (by simp only;omega)
  ·have zd:n=ps.length:=by simp at zh;omega
   subst zd;rw[zX]at hI;rw[hI,if_neg (by simp)]at hR;clear ih;refine Q3 (sl':=[(3,.vptr 0 0),(4,.vptr 1 0),(5,.vptr 2 0)]) ?_ (by simp);repeat first|(refine r_ ?_;simp[g0])|refine q_ ?_
   refine Qc rfl rfl (by simp) (k09 a.types hT.1 hT.2) rfl ?_;rintro _ rfl;simp;have k2:=Qd g2 [AObj.vars [AV.list (xH encL (Wg a.types.toNat))]];have kp:(H++[AObj.vars [AV.list (xH encL (Wg a.types.toNat))]])[H.length]? =some (.vars [.list ((Wg a.types.toNat).map encL)]):=by rw[zC (by simp)];simp
   generalize H++[AObj.vars [AV.list (xH encL (Wg a.types.toNat))]]=H1 at *;clear g0 g1 g2;generalize H.length=X at *;clear H
   repeat first|(refine r_ ?_;simp[k2])|refine q_ ?_
   refine Q3 (sl':=[(10,.vptr X 0),(86,LSy w),(87,.i w.length),(88,.i (0:Nat))]) ?_ (by simp);refine Ql ?_;refine Qm (P:=Tryz.prog) (F:=fun(u:Nat×List AObj)=>⟨[(10,.vptr X 0),(86,LSy w),(87,.i w.length),(88,.i u.1)],u.2⟩)
    (fun u=>u.1≤w.length∧Z7 a.types (w.drop u.1)=R∧u.2[X]? =some (.vars [.list ((Wg a.types.toNat).map encL)])) (fun u=>w.length - u.1) ?_ (0,_) ⟨by simp,by simpa using hR,kp⟩
   clear k2 kp hR;rintro⟨j,H⟩ ⟨hj,z7,kp⟩ ih;simp only at hj z7 kp ih ⊢;repeat first|(refine r_ ?_;simp)|refine q_ ?_
   refine Qa rfl (fun ze=> ?_) (fun zf=> ?_)
   ·have z1:j<w.length:=by simpa using ze
    have zi:IntKind.i64.wrap ((j:Int)+1)=j+1:=wrap_i64 _ (by omega) (by omega);rw[Wo z1,Z7]at z7;have za:(w.map encSy)[j]? =some (encSy w[j]):=by simp[z1]
    have zb:∀hh,(w.map encSy)[j]'hh=encSy w[j]:=fun hh=>by simp
    generalize w[j]=y at *
    have cC:=Ta (Wg a.types.toNat) y;rw[A1 a.types hT]at cC;simp only[encSy,encP]at za zb cC;have kq:=Qd kp [AObj.vars [.i y.ty,.i y.num]];have ky:(H++[AObj.vars [.i y.ty,.i y.num]])[H.length]? =some (.vars [.i y.ty,.i y.num]):=by rw[zC (by simp)];simp
    refine Yi ?_;simp;refine W8 ?_;refine Rw ?_;refine W8 (En tOk rfl ?_);simp[za,zb,z1];generalize H++[AObj.vars [.i y.ty,.i y.num]]=H1 at *;clear kp;generalize H.length=Y at *
    repeat first|(refine r_ ?_;simp[kq,ky])|refine q_ ?_
    refine Qc rfl rfl (by simp) (cC) rfl ?_;rintro _ rfl;simp;repeat first|(refine r_ ?_;simp)|refine q_ ?_
    refine Qa rfl (fun h=> ?_) (fun h=> ?_)
    ·rw[if_pos (by simpa using h)]at z7;subst z7;repeat first|(refine r_ ?_;simp)|refine q_ ?_
    ·rw[if_neg (by simpa using h)]at z7;repeat first|(refine r_ ?_;simp[zi])|refine q_ ?_
     refine Qb (sl':=[(10,.vptr X 0),(86,LSy w),(87,.i w.length),(88,.i (j+1:Nat))]) ?_ (by simp);exact ih (j+1,H1) ⟨by simp only;omega,z7,kq⟩ (by simp only;omega)
   ·have zj:j=w.length:=by simp at zf;omega
    subst zj;rw[yS]at z7;subst z7;repeat first|(refine r_ ?_;simp)|refine q_ ?_
    rfl
end Go.Abs
namespace Go.Abs
open Go Go.Proofs Go.Maps Go.RowKit
def knQ(l:List (Int×Int))(k:Nat):List (Int×Int):=(l.take k).foldl adQ []
theorem d0j(l:List (Int×Int)):knQ l 0=[]:=by unfold knQ;rfl
theorem d0v{l:List (Int×Int)}{k:Nat}(h:k<l.length):knQ l (k+1)=adQ (knQ l k) l[k]:=by unfold knQ;rw[List.take_succ_eq_append_getElem h,List.foldl_append];rfl
theorem x04{l:List (Int×Int)}{k:Nat}{s:Int×Int}:s∈knQ l k↔s∈l.take k:=by unfold knQ;have:=Fp (l.take k) [] (s:=s);rw[this];simp
def Z8(es:List (Sy×(Int×Int)))(l:List (Int×Int)):Bool:=es.all fun e=>decide (e.2∈l)
theorem x09{es:List (Sy×(Int×Int))}{l:List (Int×Int)}{e:Sy×(Int×Int)}(h1:Z8 es l=true)(h2:e.2∈l):Z8 (es++[e]) l=true:=by
 unfold Z8 at *;rw[List.all_append,h1]
 simp[h2]
theorem z0g{es:List (Sy×(Int×Int))}{l:List (Int×Int)}{e:Sy×(Int×Int)}(he:e∈es)(h:e.2∉l):Z8 es l=false:=by unfold Z8;rw[wS];exact⟨e,he,by simpa using h⟩
theorem g07(a b:Aut){K l:List (Int×Int)}(h:∀s,s∈K↔s∈l):Dh a b K=Dh a b l:=by unfold Dh;rw[yV,zR,zR,zP,zP];simp only[h]
theorem x0q{a b:Aut}{l:List (Int×Int)}{s:Int×Int}(hs:s∈l)(h:Ld a b s=false∨Z8 (Y2 a b s) l=false):Dh a b l=false:=by
 unfold Z8 at h;unfold Dh;have:(l.all fun s=>Ld a b s && (Y2 a b s).all fun e=>decide (e.2∈l))=false:=by
  rw[wS];refine⟨s,hs,?_⟩;rcases h with h|h
  ·rw[h];simp
  ·rw[h];simp
 rw[this];rfl
theorem y01{a b:Aut}{l:List (Int×Int)}(h:∀s∈l,Ld a b s=true∧Z8 (Y2 a b s) l=true):Dh a b l=decide ((0,0)∈l):=by
 unfold Z8 at h;unfold Dh;have:(l.all fun s=>Ld a b s && (Y2 a b s).all fun e=>decide (e.2∈l))=true:=by rw[zP];intro s hs;rw[(h s hs).1,(h s hs).2];rfl
 rw[this];rfl
structure PvH (a b:Aut) (M:AObj) (H:List AObj):Prop where
 h0:H[0]? =some (.vars (Qp a))
 h1:H[1]? =some (.vars (Qp b))
 h2:H[2]? =some (.vars [.bool false])
 h3:H[3]? =some M
 h4:H[4]? =some (.vars [.mref 3])
theorem PvH.app{a b:Aut}{M:AObj}{H:List AObj}(h:PvH a b M H)(E:List AObj):PvH a b M (H++E):=
 ⟨Qd h.h0 _,Qd h.h1 _,Qd h.h2 _,Qd h.h3 _,Qd h.h4 _⟩
theorem PvH.setx{a b:Aut}{M:AObj}{H:List AObj}(h:PvH a b M H){j:Nat}(hj:4<j)(x:AObj):PvH a b M (H.set j x):=
 ⟨Qg (by omega) h.h0 _,Qg (by omega) h.h1 _,Qg (by omega) h.h2 _,Qg (by omega) h.h3 _,Qg (by omega) h.h4 _⟩
theorem PvH.set3{a b:Aut}{M:AObj}{H:List AObj}(h:PvH a b M H)(x:AObj):PvH a b x (H.set 3 x):=
 ⟨Qg (by omega) h.h0 _,Qg (by omega) h.h1 _,Qg (by omega) h.h2 _,Qq h.h3 _,Qg (by omega) h.h4 _⟩
def PvR(a b:Aut)(K:List (Int×Int))(s:Int×Int)(I X:Nat)(IT:AObj)(H':List AObj):Prop:=
 ∃pend sl' ps' a' b',H'[X]? =some (.lp (Option.isNone pend) pend 54 sl' ps' a' b')∧X≤H'.length∧
    ((pend=none∧PvH a b (.fm (kvQ K)) H'∧H'[I]? =some IT∧Z8 (Y2 a b s) K=true)∨(pend=some .ret∧Z8 (Y2 a b s) K=false∧H'[2]? =some (.vars [.bool false])))
theorem y17{a b:Aut}(ha:OkA a)(hb:OkA b){s:Int×Int}(h:inS a s.1∧inS b s.2):okQ s:=q0l ha hb ⟨.inr h.1,.inr h.2⟩
attribute [local irreducible] Dh Ld Y2 knQ Z8 PvR
theorem z05(a b:Aut)(ha:OkA a)(hb:OkA b)(ht:b.types=a.types)(zw:Dta a)(zy:Dta b)(ps:List (Int×Int))(hl:ps.length≤2048)(zk:∀s∈ps,inS a s.1∧inS b s.2):PC Tryz.prog 72 [encA a,encA b,LQp ps] (fun r=>r= .bool (Dh a b ps)):=by
 refine Qh tOk Tryz.func72 rfl Tryz.results72 rfl (by simp[Tryz.ntmps72]) ?_;rw[Tryz.ntmps72];simp only[Qe];simp only[encA];obtain⟨R,hR⟩:∃R,Dh a b ps=R:=⟨_,rfl⟩
 rw[hR];repeat first|(refine r_ ?_;simp)|refine q_ ?_
 refine Ex rfl rfl rfl ?_;simp;repeat first|(refine r_ ?_;simp)|refine q_ ?_
 refine Q3 (sl':=[(3,.vptr 0 0),(4,.vptr 1 0),(6,.vptr 2 0),(7,.vptr 4 0),(13,LQp ps),(14,.i ps.length),(15,.i (0:Nat))]) ?_ (by simp);refine Ql ?_;refine Qm (P:=Tryz.prog) (F:=fun(u:Nat×List AObj)=>⟨[(3,.vptr 0 0),(4,.vptr 1 0),(6,.vptr 2 0),(7,.vptr 4 0),(13,LQp ps),(14,.i ps.length),(15,.i u.1)],u.2⟩)
  (fun u=>u.1≤ps.length∧PvH a b (stQ (knQ ps u.1)) u.2) (fun u=>ps.length - u.1) ?_ (0,_) ⟨by simp,rfl,rfl,rfl,by rw[d0j];rfl,rfl⟩
 rintro⟨n,H⟩ ⟨hn,g⟩ ih;simp only at hn g ih ⊢;repeat first|(refine r_ ?_;simp)|refine q_ ?_
 have zc:∀k,∀s∈knQ ps k,okQ s:=fun k s hs=>y17 ha hb (zk s (List.mem_of_mem_take (x04.1 hs)));refine Qa rfl (fun yb=> ?_) (fun yc=> ?_)
 ·have za:n<ps.length:=by simpa using yb
  have hw:IntKind.i64.wrap ((n:Int)+1)=n+1:=wrap_i64 _ (by omega) (by omega);have zz:(ps.map pqr)[n]? =some (pqr ps[n]):=by simp[za]
  have y0:∀hh,(ps.map pqr)[n]'hh=pqr ps[n]:=fun hh=>by simp
  have yd:=d0v za;have ye:okQ ps[n]:=y17 ha hb (zk _ (List.getElem_mem za));generalize ps[n]=s at *
  obtain⟨p,q⟩:=s;simp only[pqr]at zz y0;have k:=g.app [AObj.vars [.i p,.i q]];have kx:(H++[AObj.vars [.i p,.i q]])[H.length]? =some (.vars [.i p,.i q]):=by rw[zC (by simp)];simp
  refine Yi ?_;simp;refine W8 ?_;refine Rw ?_;refine W8 (En tOk rfl ?_);simp[zz,y0,za];generalize H++[AObj.vars [.i p,.i q]]=H1 at *;clear g;generalize H.length=X at *
  have k4:=k.h4;repeat first|(refine r_ ?_;simp[k4,kx])|refine q_ ?_
  refine Nf rfl rfl rfl rfl (s:=(p,q)) rfl rfl k.h3 (zc _) ye ?_;rw[←yd];simp;repeat first|(refine r_ ?_;simp[hw])|refine q_ ?_
  refine Qb (sl':=[(3,.vptr 0 0),(4,.vptr 1 0),(6,.vptr 2 0),(7,.vptr 4 0),(13,LQp ps),(14,.i ps.length),(15,.i (n+1:Nat))]) ?_ (by simp);exact ih (n+1,_) ⟨by simp only;omega,k.set3 _⟩ (by simp only;omega)
 ·have zo:n=ps.length:=by simp at yc;omega
  subst zo;have y1:=zc ps.length;have zp:∀s,s∈knQ ps ps.length↔s∈ps:=fun s=>by rw[x04,zX]
  have yf:∀s∈knQ ps ps.length,inS a s.1∧inS b s.2:=fun s hs=>zk s ((zp s).1 hs);rw[←g07 a b zp]at hR;generalize knQ ps ps.length=K at *;clear ih zc zp zk;refine Q3 (sl':=[(3,.vptr 0 0),(4,.vptr 1 0),(6,.vptr 2 0),(7,.vptr 4 0)]) ?_ (by simp)
  have g4:=g.h4;repeat first|(refine r_ ?_;simp[g4])|refine q_ ?_
  refine Co tOk rfl rfl rfl u13 rfl rfl g.h3 ?_;simp;repeat first|(refine r_ ?_;simp)|refine q_ ?_
  refine R7 fun E hE=> ?_;have e:PvH a b (.fm (kvQ K)) E:=by rw[hE];exact(g.set3 _).app _
  have ei:E[H.length]? =some (.it (kvQ K) none):=by rw[hE,zC (by simp)];simp
  have yg:=Qi g4;clear hE g g4;generalize H.length=I at *;clear H;refine Ql (Qb (sl':=[(3,.vptr 0 0),(4,.vptr 1 0),(6,.vptr 2 0),(7,.vptr 4 0),(23,.vptr I 0)]) ?_ (by simp))
  refine Qm (P:=Tryz.prog) (F:=fun(u:List (Int×Int)×Option (AV×AV)×List AObj)=>⟨[(3,.vptr 0 0),(4,.vptr 1 0),(6,.vptr 2 0),(7,.vptr 4 0),(23,.vptr I 0)],u.2.2⟩)
   (fun u=>PvH a b (.fm (kvQ K)) u.2.2∧u.2.2[I]? =some (.it (kvQ u.1) u.2.1)∧(∀s∈u.1,s∈K)∧∀s∈K,s∉u.1→Ld a b s=true∧Z8 (Y2 a b s) K=true) (fun u=>u.1.length) ?_ (K,none,E) ⟨e,ei,fun s h=>h,fun s h h2=>absurd h h2⟩
  clear e ei;clear E;rintro⟨left,cur,E⟩ ⟨e,ei,zb,z6⟩ ih;simp only at e ei zb z6 ih ⊢;repeat first|(refine r_ ?_;simp)|refine q_ ?_
  refine A6 rfl rfl rfl rfl ei (fun y2=> ?_) (fun i p hp=> ?_)
  ·simp;have yh:left=[]:=by unfold kvQ at y2;simpa using y2
   subst yh;repeat first|(refine r_ ?_;simp)|refine q_ ?_
   refine Qs rfl ?_;simp;have e4:=e.h4;rw[y01 fun s hs=>z6 s hs (by simp)]at hR;repeat first|(refine r_ ?_;simp[e4])|refine q_ ?_
   refine Sx rfl rfl rfl rfl (s:=(0,0)) rfl e.h3 y1 (by unfold okQ;decide) ?_;rw[hR];have e2:=e.h2;have zq:=Qq e2 (.vars [.bool R]);simp[e2];repeat first|(refine r_ ?_;simp[zq])|refine q_ ?_
  ·simp;unfold kvQ at hp;rw[List.getElem?_map]at hp;obtain⟨s,hs,rfl⟩:=Option.map_eq_some_iff.1 hp;have yi:(kvQ left).eraseIdx i=kvQ (left.eraseIdx i):=Gt ..;rw[yi];have y3:s∈K:=zb s (List.mem_of_getElem? hs);have ze:∀z∈left.eraseIdx i,z∈K:=fun z hz=>zb z (List.mem_of_mem_eraseIdx hz);have ym:(left.eraseIdx i).length<left.length:=by rw[List.length_eraseIdx,if_pos (Ty hs)];have:=Ty hs;omega
   have z1:(Ld a b s=true∧Z8 (Y2 a b s) K=true)→∀z∈K,z∉left.eraseIdx i→Ld a b z=true∧Z8 (Y2 a b z) K=true:=fun h z hz hn=>by
    by_cases hzl:z∈left
    ·rw[mem_erase hs hzl hn];exact h
    ·exact z6 z hz hzl
   clear z6 zb;have zl:=yf s y3;have z7:=fun h=>x0q (a:=a) (b:=b) y3 h;generalize left.eraseIdx i=left' at *
   have ki:=Qq ei (.it (kvQ left') (some (pqr s,.bool true)));have k:=e.setx yg (.it (kvQ left') (some (pqr s,.bool true)));generalize E.set I (.it (kvQ left') (some (pqr s,.bool true)))=E1 at *;clear e ei;clear E
   obtain⟨s1,s2⟩:=s;unfold inS at zl;simp only at zl;obtain⟨sn,rfl⟩:∃k:Nat,s1=k:=⟨s1.toNat,by omega⟩
   obtain⟨tn,rfl⟩:∃k:Nat,s2=k:=⟨s2.toNat,by omega⟩
   have zm:sn<a.fin.length:=by have:=zl.1.2;omega
   have zn:tn<b.fin.length:=by have:=zl.2.2;omega
   have hq:Ld a b ((sn:Int),(tn:Int))=(a.fin[sn]==b.fin[tn]):=by unfold Ld;simp[zm,zn]
   have y4:(a.fin.map AV.bool)[sn]? =some (.bool a.fin[sn]):=by simp[zm]
   have zf:∀hh,(a.fin.map AV.bool)[sn]'hh= .bool a.fin[sn]:=fun hh=>by simp
   have y5:(b.fin.map AV.bool)[tn]? =some (.bool b.fin[tn]):=by simp[zn]
   have zg:∀hh,(b.fin.map AV.bool)[tn]'hh= .bool b.fin[tn]:=fun hh=>by simp
   generalize a.fin[sn]=fa at *;generalize b.fin[tn]=fb at *;simp only[pqr]at ki ⊢
   repeat first|(refine r_ ?_;simp)|refine q_ ?_
   refine Qs rfl ?_;simp;refine Yi ?_;simp;refine Rw ?_;refine W8 (En tOk rfl ?_);simp;refine Ou rfl rfl rfl rfl ki ?_;simp;have yn:=Qi ki;have kx:(E1++[AObj.vars [.i sn,.i tn]])[E1.length]? =some (.vars [.i sn,.i tn]):=by rw[zC (by simp)];simp
   have kk:=k.app [AObj.vars [.i sn,.i tn]];have y6:=Qd ki [AObj.vars [.i sn,.i tn]];generalize zr:E1++[AObj.vars [.i sn,.i tn]]=E2 at *
   have yj:E2.length=E1.length+1:=by rw[←zr];simp
   clear zr;clear k ki;generalize E1.length=X at *
   have k0:=kk.h0;have k1:=kk.h1;repeat first|(refine r_ ?_;simp)|refine q_ ?_
   refine Qj tOk mixed [] (.val 0 (.val 1 (.val 2 (.val 3 (.val 4 (.val 5 (.val 6 (.val 7 (.val 8 (.val 9 (.val 10 (.val 11 (.val 12 (.done)))))))))))))) rfl (by kernel_rfl) ?_;simp[k0,k1,kx,y4,zf,y5,zg,zm,zn];refine Qa rfl (fun h=> ?_) (fun h=> ?_)
   ·have hf:(fa==fb)=false:=by simpa using h
    rw[hq,hf]at z7;rw[z7 (.inl rfl)]at hR;subst hR;have k2:=kk.h2;have zq:=Qq k2 (.vars [.bool false]);repeat first|(refine r_ ?_;simp[k2,zq])|refine q_ ?_
   have hf:(fa==fb)=true:=by simpa using h
   rw[hq,hf]at z1 z7;have cLe:=Cj a b ((sn:Int),(tn:Int));simp only[encA,pqr]at cLe;have zt:∀e∈Y2 a b ((sn:Int),(tn:Int)),okQ e.2:=fun e he=>q0l ha hb (u0z zw zy ht he);repeat first|(refine r_ ?_;simp[k0,k1,kx])|refine q_ ?_
   refine Qc rfl rfl (by simp) (cLe) rfl ?_;rintro _ rfl;simp;refine Q3 (sl':=[(3,.vptr 0 0),(4,.vptr 1 0),(6,.vptr 2 0),(7,.vptr 4 0),(23,.vptr I 0),(44,.fn (.func 190) [] [.iptr (Qp a),.iptr [.i sn,.i tn],.iptr (Qp b)])]) ?_ (by simp);have k2:=kk.h2;have zr:=Qi kk.h4;have yo:=Qi y6;repeat first|(refine r_ ?_;simp)|refine q_ ?_
   clear k0 k1 kx y4 zf y5 zg zm zn cLe;have y7:([.i (sn:Int),.i (tn:Int)]:List AV)=[.i ((sn:Int),(tn:Int)).1,.i ((sn:Int),(tn:Int)).2]:=rfl;rw[y7];clear y7;generalize ((sn:Int),(tn:Int))=s at *;generalize hit:AObj.it (kvQ left') (some (AV.agg [AV.i ↑sn,AV.i ↑tn],AV.bool true))=IT at *;refine Ey rfl (Rf:=fun _ H'=>PvR a b K s I E2.length IT H') ?_ ?_
   ·simp;refine Ke fun H1 zh=> ?_;have fS:PvH a b (.fm (kvQ K)) H1:=by rw[zh];exact kk.app _
    have fi:H1[I]? =some IT:=by rw[zh];exact Qd y6 _
    have fl:H1.length=E2.length+1:=by rw[zh];simp
    have fq:=congrArg (fun h:List AObj=>h[E2.length]?) zh;simp at fq;clear zh;refine FC.mono (Jg a b ha hb ht zw zy s E2.length (by rfl) (by rfl)
     (fun pre J=>PvH a b (.fm (kvQ K)) J∧J[I]? =some IT∧Z8 pre K=true∧J[E2.length]? =H1[E2.length]?)
     (fun c J=>c= .ret∧Z8 (Y2 a b s) K=false∧J[2]? =some (.vars [.bool false])∧∃sl' ps' a' b',J[E2.length]? =some (.lp false (some .ret) 54 sl' ps' a' b')) H1 (fun pre J h=>h.2.2.2.trans fq)
     (fun pre J E h=>⟨h.1.app E,Qd h.2.1 _,h.2.2.1,by rw[←h.2.2.2,List.getElem?_append_left (Qi (h.2.2.2.trans fq))]⟩) ?_ ⟨fS,fi,by unfold Z8;rfl,rfl⟩) ?_
    ·rintro pre e post J heq ⟨g,gi,zu,yk⟩ hlen1;simp[Th];have h8:=yk.trans fq;have hd:=g.setx (j:=E2.length) (by omega) .dead;have di:=Qg (j:=E2.length) (by omega) gi .dead;have d8:=Qq h8 .dead;have dl:(J.set E2.length .dead).length=J.length:=by simp
     have yl:∀j,j≠E2.length→(J.set E2.length .dead)[j]? =J[j]? :=fun j hj=>by rw[List.getElem?_set_ne (Ne.symm hj)]
     generalize J.set E2.length .dead=Z at *
     have zj:=zt e (by rw[heq];simp);obtain⟨⟨ty,num⟩,t⟩:=e;simp only[Ek];simp only at zj;have z:=hd.app [.vars [.i ty,.i num,.i t.1,.i t.2]];have zx:(Z++[AObj.vars [.i ty,.i num,.i t.1,.i t.2]])[Z.length]? =some (.vars [.i ty,.i num,.i t.1,.i t.2]):=by rw[zC (by simp)];simp
     have z4:=z.h4;have z2:=z.h2;refine En tOk rfl ?_;simp;generalize y8:Z++[AObj.vars [.i ty,.i num,.i t.1,.i t.2]]=Z2 at *
     have zv:∀j x,Z[j]? =some x→Z2[j]? =some x:=fun j x h=>by rw[←y8];exact Qd h _
     have z8:=zv _ _ d8;have zi:=zv _ _ di;clear y8;generalize Z.length=Y at *
     repeat first|(refine r_ ?_;simp[z4,zx])|refine q_ ?_
     refine Sx rfl rfl rfl rfl (s:=t) rfl z.h3 y1 zj ?_;simp;repeat first|(refine r_ ?_;simp)|refine q_ ?_
     by_cases hm:t∈K
     ·refine Qa rfl (fun h=>by rw[decide_eq_true hm]at h;cases h) (fun _=> ?_);repeat first|(refine r_ ?_;simp)|refine q_ ?_
      refine⟨z8,.inl ⟨rfl,⟨z.setx (by omega) _,Qg (by omega) zi _,x09 zu hm,by rw[fq];exact Qq z8 _⟩,fun j cs hj hc=> ?_⟩⟩
      ·have y9:j≠E2.length:=by omega
       exact Qg (Ne.symm y9) (zv j _ ((yl j y9).trans hc)) _
     ·refine Qa rfl (fun _=> ?_) (fun h=>by rw[decide_eq_false hm]at h;cases h);have z22:=Qq z2 (.vars [.bool false]);repeat first|(refine r_ ?_;simp[z2,z22])|refine q_ ?_
      have zd:=z0g (l:=K) (e:=(⟨ty,num⟩,t)) (es:=Y2 a b s) (by rw[heq];simp) hm;refine⟨Qg (by omega) z8 _,.inr ⟨_,rfl,rfl,zd,Qg (by omega) z22 _,_,_,_,_,Qq (Qg (by omega) z8 _) _⟩⟩
    ·rintro _ H' (⟨h1,h2,h3,h4⟩|⟨c,rfl,h2,h3,sl',ps',a',b',h4⟩)
     ·unfold PvR;exact⟨none,_,_,_,_,h4.trans fq,tE (Qi (h4.trans fq)),.inl ⟨rfl,h1,h2,h3⟩⟩
     ·unfold PvR;exact⟨some .ret,sl',ps',a',b',h4,tE (Qi h4),.inr ⟨rfl,h2,h3⟩⟩
   ·intro res H' ya;unfold PvR at ya;obtain⟨pend,sl',ps',a',b',h3,h4,h5⟩:=ya;refine⟨pend.isNone,pend,54,sl',ps',a',b',by simpa using h3,?_⟩;rcases h5 with⟨rfl,h5,h6,h7⟩|⟨rfl,h5,h6⟩
    ·rw[h7]at z1;have k:=h5.setx (j:=E2.length) (by omega) .dead;have ki:=Qg (j:=E2.length) (by omega) h6 .dead;simp;repeat first|(refine r_ ?_;simp)|refine q_ ?_
     refine Qb (sl':=[(3,.vptr 0 0),(4,.vptr 1 0),(6,.vptr 2 0),(7,.vptr 4 0),(23,.vptr I 0)]) ?_ (by simp);rw[←hit]at ki;exact ih (left',some (AV.agg [AV.i ↑sn,AV.i ↑tn],AV.bool true),H'.set E2.length .dead) ⟨k,ki,ze,z1 ⟨rfl,rfl⟩⟩ (by simp only;omega)
    ·rw[h5]at z7;rw[z7 (.inr rfl)]at hR;subst hR;have k2:=Qg (j:=E2.length) (by omega) h6 .dead;simp;repeat first|(refine r_ ?_;simp[k2])|refine q_ ?_
attribute [local irreducible] E8 Yt Z9 Pd Rz
theorem I9(a b:Aut)(x:EqC):PC Tryz.prog 23 [encA a,encA b,Hl x] (fun r=>r= .i (Zz a b x)):=by
 refine Qh tOk Tryz.func23 rfl Tryz.results23 rfl (by simp[Tryz.ntmps23]) ?_;rw[Tryz.ntmps23];simp only[Qe];obtain⟨v,ps,w⟩:=x;have cF:=Jp a b;have z7:E8 a b=0→Dfa a∧Dfa b∧b.types=a.types:=fun h=>Yx.1 h;obtain⟨R,hR⟩:∃R,Zz a b ⟨v,ps,w⟩=R:=⟨_,rfl⟩
 rw[hR];unfold Zz at hR;simp only[encA,Hl]at cF hR ⊢;repeat first|(refine r_ ?_;simp)|refine q_ ?_
 refine Qc rfl rfl (by simp) (cF) rfl ?_;rintro _ rfl;simp;repeat first|(refine r_ ?_;simp)|refine q_ ?_
 refine Qa rfl (fun h=> ?_) (fun h=> ?_)
 ·have h':E8 a b≠0:=by simpa using h
  rw[if_pos h']at hR;subst hR;repeat first|(refine r_ ?_;simp)|refine q_ ?_
 have h':E8 a b=0:=by simpa using h
 rw[if_neg (fun k=>k h')]at hR;obtain⟨ha,hb,ht⟩:=z7 h';have cP:=v0v a b ⟨v,ps,w⟩ ha.ok.types;have cA:=Jt a w;have cB:=Jt b w;have cC:=fun h1 h2=>z05 a b ha.ok hb.ok ht ⟨ha.ok,ha.det⟩ ⟨hb.ok,hb.det⟩ ps h1 h2;rw[k04 ⟨ha.ok,ha.det⟩ ⟨hb.ok,hb.det⟩ ht]at cC;simp only[encA,Hl]at cP cA cB cC;repeat first|(refine r_ ?_;simp)|refine q_ ?_
 refine Qc rfl rfl (by simp) (cP) rfl ?_;rintro _ rfl;simp;repeat first|(refine r_ ?_;simp)|refine q_ ?_
 refine Qa rfl (fun h4=> ?_) (fun h4=> ?_)
 ·have z1:Yt a b ⟨v,ps,w⟩≠0:=by simpa using h4
  rw[if_pos z1]at hR;subst hR;repeat first|(refine r_ ?_;simp)|refine q_ ?_
 have z1:Yt a b ⟨v,ps,w⟩=0:=by simpa using h4
 rw[if_neg (fun k=>k z1)]at hR;rw[Y3]at z1;have z8:v=1∨v=2:=by
  by_cases k:v≠1∧v≠2
  ·rw[if_pos k]at z1;cases z1
  ·omega
 rw[if_neg (by omega)]at z1;have za:Z9 a b ⟨v,ps,w⟩=0:=by
  split at z1
  ·cases z1
  ·exact z1
 obtain⟨e1,e2,e3,e4⟩:=Lo za;simp only at e1 e2 e3 e4;have z6:∀(m:Aut),Dfa m→m.types=a.types→f06 m w=(Rz m w,0):=fun m hm zb=>by
  have hE:f09 m w=0:=by unfold f09;rw[(Oc m).2 hm.ok,if_neg (by simp),if_neg (by omega),zb,e4]
  unfold f06;rw[hE];rfl
 rw[z6 a ha rfl]at cA;rw[z6 b hb ht]at cB;rcases z8 with rfl|rfl
 ·repeat first|(refine r_ ?_;simp)|refine q_ ?_
  refine Qa rfl (fun _=> ?_) (fun h=>by simp at h);repeat first|(refine r_ ?_;simp)|refine q_ ?_
  refine Qc rfl rfl (by simp) (cC e1 e3) rfl ?_;rintro _ rfl;simp;repeat first|(refine r_ ?_;simp)|refine q_ ?_
  rw[if_pos rfl]at hR;refine Qa rfl (fun h=> ?_) (fun h=> ?_)
  ·rw[if_neg (by simpa using h)]at hR;subst hR;repeat first|(refine r_ ?_;simp)|refine q_ ?_
  ·rw[if_pos (by simpa using h)]at hR;subst hR;repeat first|(refine r_ ?_;simp)|refine q_ ?_
 ·repeat first|(refine r_ ?_;simp)|refine q_ ?_
  refine Qa rfl (fun h=>by simp at h) (fun _=> ?_);repeat first|(refine r_ ?_;simp)|refine q_ ?_
  refine Qc rfl rfl (by simp) (cA) rfl ?_;rintro _ rfl;simp;repeat first|(refine r_ ?_;simp)|refine q_ ?_
  refine Qc rfl rfl (by simp) (cB) rfl ?_;rintro _ rfl;simp;repeat first|(refine r_ ?_;simp)|refine q_ ?_
  refine Qa rfl (fun h=> ?_) (fun h=> ?_)
  ·have h':Rz a w=Rz b w:=by simpa using h
   simp[h']at hR;subst hR;repeat first|(refine r_ ?_;simp)|refine q_ ?_
  ·have h':¬Rz a w=Rz b w:=by simpa using h
   simp[h']at hR;subst hR;repeat first|(refine r_ ?_;simp)|refine q_ ?_
end Go.Abs
namespace Go.Abs
open Go Go.Proofs Go.Maps Go.RowKit
attribute [local irreducible] exQ exR Ml x1n u1m Zz
theorem Pt:PC Tryz.prog 28 [] (fun r=>r= .bool true):=by
 refine Qh tOk Tryz.func28 rfl Tryz.results28 rfl (by simp[Tryz.ntmps28]) ?_;rw[Tryz.ntmps28];simp only[Qe];have z6:yD 1=[0]:=rfl;have z1:yD 2=[0,1]:=rfl;repeat first|(refine r_ ?_;simp)|refine q_ ?_
 refine Qc rfl rfl (by simp) (Bb) rfl ?_;rintro _ rfl;simp;repeat first|(refine r_ ?_;simp)|refine q_ ?_
 refine Qc rfl rfl (by simp) (J5 exQ exR) rfl ?_;rintro _ rfl;simp[y1m,v1b,Hl];repeat first|(refine r_ ?_;simp)|refine q_ ?_
 refine Qc rfl rfl (by simp) (J5 exQ exQ) rfl ?_;rintro _ rfl;simp[j0e,v1b,Hl];repeat first|(refine r_ ?_;simp[z6])|refine q_ ?_
 refine Wc 4 rfl ?_;simp;refine Qc rfl rfl (by simp) (Vb exQ exR) rfl ?_;rintro _ rfl;simp[f1j,d00];repeat first|(refine r_ ?_;simp)|refine q_ ?_
 refine Qc rfl rfl (by simp) (X4 exQ exR) rfl ?_;rintro _ rfl;simp[u1s,d00];have z7:IntKind.i64.wrap 0=0:=by decide
 have e1:Hl ⟨2,[],[⟨0,5⟩]⟩= .agg [.i 2,.list [],.list [.agg [.i 0,.i 5]]]:=rfl;have e2:Hl ⟨1,[(0,0),(1,1)],[]⟩= .agg [.i 1,.list [.agg [.i 0,.i 0],.agg [.i 1,.i 1]],.list []]:=rfl;refine Q3 (sl':=[(0,.bool false),(1,.vptr 0 0),(2,.vptr 1 0),(3,.vptr 2 0),(4,.i 0),(5,.vptr 3 0),(6,.i 0),(7,.list [.agg [.i 0,.i 5]]),(8,.list [.agg [.i 0,.i 5]]),(9,.bool true),(10,.i 0),(11,.list [.agg [.i 0,.i (-1099511627776)],.agg [.i 0,.i 5]]),(12,.bool false),(13,.i 0)]) ?_ (by simp);repeat first|(refine r_ ?_;simp[z7])|refine q_ ?_
 refine Qc rfl rfl (by simp) (q02 ⟨2,[],[⟨0,5⟩]⟩) rfl ?_;rintro _ rfl;simp[e1,z1];refine Wc 5 rfl ?_;simp;refine Qc rfl rfl (by simp) (q02 ⟨1,[(0,0),(1,1)],[]⟩) rfl ?_;rintro _ rfl;simp[e2,z1];refine Qc rfl rfl (by simp) (Jb [⟨0,5⟩] [⟨0,5⟩]) rfl ?_;rintro _ rfl;simp[z1];refine Wc 6 rfl ?_;simp;refine Qc rfl rfl (by simp) (Jb [⟨0,-1099511627776⟩,⟨0,5⟩] [⟨0,-1099511627776⟩,⟨0,5⟩]) rfl ?_;rintro _ rfl;simp;refine Qc rfl rfl (by simp) (I9 exQ exR ⟨2,[],[⟨0,5⟩]⟩) rfl ?_;rintro _ rfl;simp[u17];refine Qc rfl rfl (by simp) (I9 exQ exQ ⟨1,[(0,0),(1,1)],[]⟩) rfl ?_;rintro _ rfl;simp[v1h];refine Wc 7 rfl ?_;simp;refine Qc rfl rfl (by simp) (I9 exQ exQ ⟨1,[(0,0)],[]⟩) rfl ?_;rintro _ rfl;simp[k1d];repeat first|(refine r_ ?_;simp)|refine q_ ?_
end Go.Abs
namespace Go.Abs
open Go Go.Proofs Go.Maps Go.RowKit
attribute [local irreducible] w1y y2r Ml y2m u1m y2o x1n Zz Eo
end Go.Abs
namespace Go.Abs
open Go Go.Proofs Go.Maps Go.RowKit
theorem Ts{P:Program}[Env P]{T:TT}{nt k:Nat}{ops:Array Oper}{Q:AS→Prop}{o:Oper}{l:List Oper}{S:AS}:Ry P T nt k ops Q (o::l) S=(if Oj o.op then(match Dm T ops S o with
   |some S'=>Ry P T nt k ops Q l S'
   |none=>Wm P nt k true ops o S (Ry P T nt k ops Q l))
  else Wm P nt k true ops o S (Ry P T nt k ops Q l)):=rfl
theorem Yv{P:Program}[Env P]{T:TT}{nt k:Nat}{ops:Array Oper}{Q:AS→Prop}{S:AS}:Ry P T nt k ops Q [] S=Q S:=rfl
attribute [local irreducible] w1y Zz
theorem L9(a b:Aut)(x:EqC):PC Tryz.prog 6 [encA a,encA b,Hl x] (fun r=>r= .bool true):=by
 refine Qh tOk Tryz.func6 rfl Tryz.results6 rfl (by simp[Tryz.ntmps6]) ?_;rw[Tryz.ntmps6];simp only[Qe];have c1:=v00 a;have c2:=v00 b;have c3:=I9 a b x;have c4:=w0n a b x;generalize Zz a b x=V at *
 obtain⟨v,ps,w⟩:=x;simp only[encA,Hl]at c1 c2 c3 c4 ⊢;refine W8 (En tOk rfl ?_);simp;refine W8 ?_;refine W8 (En tOk rfl ?_);repeat (first|(rw[Ts];simp[-Ry])|(rw[Yv];simp[-Ry]))
 have z1:∀x:Bool,x=false∨x=true:=fun x=>by cases x<;>simp
 rcases z1 (w1y a)with h1|h1
 ·rw[h1]at c1;refine Qc rfl rfl (by simp) c1 rfl ?_;rintro _ rfl;repeat (first|(rw[Ts];simp[-Ry])|(rw[Yv];simp[-Ry]))
  refine Qx rfl rfl ?_;repeat (first|(rw[Ts];simp[-Ry])|(rw[Yv];simp[-Ry]))
  refine Qa rfl (fun _=> ?_) (fun h=>by cases h);refine Q3 (sl':=[(3,.vptr 0 0),(4,.vptr 1 0),(5,.vptr 2 0),(6,.bool false)]) ?_ (by simp);repeat first|(refine r_ ?_;simp)|refine q_ ?_
  refine Qc rfl rfl (by simp) (Pt) rfl ?_;rintro _ rfl;simp;repeat first|(refine r_ ?_;simp)|refine q_ ?_
 rw[h1]at c1;refine Qc rfl rfl (by simp) c1 rfl ?_;rintro _ rfl;repeat (first|(rw[Ts];simp[-Ry])|(rw[Yv];simp[-Ry]))
 rcases z1 (w1y b)with h2|h2
 ·rw[h2]at c2;refine Qc rfl rfl (by simp) c2 rfl ?_;rintro _ rfl;repeat (first|(rw[Ts];simp[-Ry])|(rw[Yv];simp[-Ry]))
  refine Qa rfl (fun _=> ?_) (fun h=>by cases h);refine Q3 (sl':=[(3,.vptr 0 0),(4,.vptr 1 0),(5,.vptr 2 0),(6,.bool false)]) ?_ (by simp);repeat first|(refine r_ ?_;simp)|refine q_ ?_
  refine Qc rfl rfl (by simp) (Pt) rfl ?_;rintro _ rfl;simp;repeat first|(refine r_ ?_;simp)|refine q_ ?_
 rw[h2]at c2;refine Qc rfl rfl (by simp) c2 rfl ?_;rintro _ rfl;repeat (first|(rw[Ts];simp[-Ry])|(rw[Yv];simp[-Ry]))
 refine Qa rfl (fun _=> ?_) (fun _=> ?_)
 ·refine Q3 (sl':=[(3,.vptr 0 0),(4,.vptr 1 0),(5,.vptr 2 0),(6,.bool false)]) ?_ (by simp);repeat first|(refine r_ ?_;simp)|refine q_ ?_
  refine Qc rfl rfl (by simp) (Pt) rfl ?_;rintro _ rfl;simp;repeat first|(refine r_ ?_;simp)|refine q_ ?_
 refine Q3 (sl':=[(3,.vptr 0 0),(4,.vptr 1 0),(5,.vptr 2 0),(6,.bool false)]) ?_ (by simp);clear c1 c2;repeat first|(refine r_ ?_;simp)|refine q_ ?_
 refine Qj tOk mixed [] (.one 0 (.val 1 (.val 2 (.val 3 (.val 4 (.val 6 (.val 7 (.val 8 (.one 5 (.one 9 (.val 10 (.val 11 (.val 12 (.done)))))))))))))) rfl (by kernel_rfl) ?_;simp;refine Qc rfl rfl (by simp) (Pt) rfl ?_;rintro _ rfl;simp;refine Qc rfl rfl (by simp) (c3) rfl ?_;rintro _ rfl;simp;refine Qc rfl rfl (by simp) (c4) rfl ?_;rintro _ rfl;simp;repeat first|(refine r_ ?_;simp)|refine q_ ?_
end Go.Abs
namespace Go.Abs
open Go Go.Proofs Go.RowKit Go.Proofs.YtjmkolhkojgjpaaGreatDoor
theorem laidOut:laidOutB Tryz.prog=true:=by kernel_rfl
theorem own:ownKnob Tryz.prog.godebug=none:=by kernel_rfl
theorem Ox{α:Type}{g:α→AV}{Q:α→Prop}:∀xs:List AV,(∀x∈xs,∃a,x=g a∧Q a)→∃l:List α,xs=l.map g∧∀a∈l,Q a
 |[],_=>⟨[],rfl,by simp⟩
 |x::xs,h=>by obtain⟨a,rfl,ha⟩:=h x (by simp);obtain⟨l,rfl,hl⟩:=Ox xs (fun y hy=>h y (by simp[hy]));exact⟨a::l,rfl,by simpa using⟨ha,hl⟩⟩
theorem Jj{d:Nat}{zs:List AV}(h:Shp T (d+1) 3 zs):∃n:Int,zs=[.i n]∧ -9223372036854775808≤n∧n≤9223372036854775807:=by simp only[Shp,T3,Jx]at h;obtain⟨n,rfl,h1,h2⟩:=h;exact⟨n,rfl,h1,h2⟩
theorem u12{d:Nat}{zs:List AV}(h:Shp T (d+1) 4 zs):∃b:Bool,zs=[.bool b]:=by simp only[Shp,T4,Jx]at h;exact h
theorem k17{d:Nat}{xs:List AV}(h:Y5 T d [] xs):xs=[]:=h
theorem f1u {l:List (String×DataW Unit)} {w:World} {name:String} {k:IntKind} {zs:List Int} {g:Nat} {t e:TypeId} {n:Nat} (h:laidMetH Tryz.prog l w) (hl:l.filter (fun x=>x.1==name)=[(name,Lib.tabData k zs)])
  (hg:Tryz.prog.globalNamed name=some g) (z1:(Tryz.prog.globals[g]?).map (·.type)=some t) (ht:Tryz.prog.underlying t=some (.array n e)) (he:Tryz.prog.underlying e=some (.int k)) (z6:Tryz.prog.cellsOf e=1) (z7:Tryz.prog.cellsOf t=n):
  g<w.heap.size∧∃t fr,w.heap[g]? =some (.cells (zs.map fun z=>Value.int k z).toArray t fr):=by
 have h1:=h.filter (fun x=>x.1==name);rw[hl]at h1;have h2:Lib.TabIs Tryz.prog w name k zs:=Lib.tabIs_of_head hg z1 ht he z6 z7 h1;unfold Lib.TabIs World.var? at h2;rw[hg]at h2;simp only[Option.bind_some]at h2;cases ho:w.heap[g]? with
 |none=>rw[ho]at h2;simp at h2
 |some o=>rw[ho]at h2;refine⟨(Array.getElem?_eq_some_iff.1 ho).1,?_⟩;cases o<;>simp at h2;rename_i cs t fr;exact⟨t,fr,by rw[h2]⟩
end Go.Abs
namespace Go.Abs
open Go Go.Proofs Go.RowKit Go.Proofs.YtjmkolhkojgjpaaGreatDoor
theorem y2h{d:Nat}{zs:List AV}(h:Shp T (d+2) 144 zs):∃v:Iv,zs=(encIv v).cells:=by simp only[Shp,Hc,T3,Jx,w1u,yK,xN]at h;obtain⟨_,_,rfl,⟨a,rfl,ha⟩,_,_,rfl,⟨b,rfl,hb⟩,rfl⟩:=h;exact⟨⟨a,b⟩,rfl⟩
theorem w25{d:Nat}{zs:List AV}(h:Shp T (d+3) 145 zs):∃l:List Iv,zs=[encL l]:=by
 rw[Shp,Ai]at h;simp only[Jx]at h;obtain⟨ei,xs,he,rfl,hl,hx⟩:=h;rw[Hc]at he;cases he;obtain⟨l,rfl,hq⟩:=Ox (g:=encIv) (Q:=fun _=>True) xs (fun x z1=>by
  obtain⟨zs,rfl,hz⟩:=hx x z1;obtain⟨v,rfl⟩:=y2h (d:=d) hz;exact⟨v,rfl,trivial⟩)
 exact⟨l,rfl⟩
theorem c1q{d:Nat}{zs:List AV}(h:Shp T (d+4) 68 zs):∃p:Prd,zs=[.list (p.map encL)]:=by
 rw[Shp,T68]at h;simp only[Jx]at h;obtain⟨ei,xs,he,rfl,hl,hx⟩:=h;rw[Ai]at he;cases he;obtain⟨l,rfl,hq⟩:=Ox (g:=encL) (Q:=fun _=>True) xs (fun x z1=>by
  obtain⟨zs,rfl,hz⟩:=hx x z1;obtain⟨v,rfl⟩:=w25 (d:=d) hz;exact⟨v,rfl,trivial⟩)
 exact⟨l,rfl⟩
theorem d1m{d:Nat}{zs:List AV}(h:Shp T (d+5) 70 zs):∃p:Prd,zs=[.list (p.map encL)]:=by rw[Shp,T70]at h;simp only[Jx,w1u,yK,xN]at h;obtain⟨_,_,rfl,h1,rfl⟩:=h;obtain⟨p,rfl⟩:=c1q (d:=d) h1;exact⟨p,rfl⟩
theorem d1x{d:Nat}{zs:List AV}(h:Shp T (d+6) 73 zs):∃m:Mv,zs=(encMv m).cells:=by rw[Shp,T73]at h;simp only[Jx,w1u,yK,xN]at h;obtain⟨_,_,rfl,h1,_,_,rfl,h2,_,_,rfl,h3,rfl⟩:=h;obtain⟨a,rfl,_⟩:=Jj (d:=d+4) h1;obtain⟨b,rfl,_⟩:=Jj (d:=d+4) h2;obtain⟨p,rfl⟩:=d1m (d:=d) h3;exact⟨⟨a,b,p⟩,rfl⟩
theorem k15{d:Nat}{zs:List AV}(h:Shp T (d+7) 23 zs):∃l:List Mv,zs=[.list (l.map encMv)]:=by
 rw[Shp,T23]at h;simp only[Jx]at h;obtain⟨ei,xs,he,rfl,hl,hx⟩:=h;rw[T73]at he;cases he;obtain⟨l,rfl,hq⟩:=Ox (g:=encMv) (Q:=fun _=>True) xs (fun x z1=>by
  obtain⟨zs,rfl,hz⟩:=hx x z1;obtain⟨v,rfl⟩:=d1x (d:=d) hz;exact⟨v,rfl,trivial⟩)
 exact⟨l,rfl⟩
theorem v1z{d:Nat}{zs:List AV}(h:Shp T (d+2) 22 zs):∃l:List Bool,zs=[.list (l.map .bool)]:=by
 rw[Shp,T22]at h;simp only[Jx]at h;obtain⟨ei,xs,he,rfl,hl,hx⟩:=h;rw[T4]at he;cases he;obtain⟨l,rfl,hq⟩:=Ox (g:=AV.bool) (Q:=fun _=>True) xs (fun x z1=>by
  obtain⟨zs,rfl,hz⟩:=hx x z1;obtain⟨v,rfl⟩:=u12 (d:=d) hz;exact⟨v,rfl,trivial⟩)
 exact⟨l,rfl⟩
theorem c19{d:Nat}{zs:List AV}(h:Shp T (d+8) 25 zs):∃a:Aut,zs=(encA a).cells:=by rw[Shp,T25]at h;simp only[Jx,w1u,yK,xN]at h;obtain⟨_,_,rfl,h1,_,_,rfl,h2,_,_,rfl,h3,rfl⟩:=h;obtain⟨t,rfl,_⟩:=Jj (d:=d+6) h1;obtain⟨f,rfl⟩:=v1z (d:=d+5) h2;obtain⟨m,rfl⟩:=k15 (d:=d) h3;exact⟨⟨t,f,m⟩,rfl⟩
theorem y1d{d:Nat}{ts:List Nat}{xs:List AV}(h:Y5 T (d+8) (25::ts) xs):∃(a:Aut) (r:List AV),xs=encA a::r∧Y5 T (d+8) ts r:=by obtain⟨i,zs,r,hi,rfl,h1,h⟩:=h;rw[T25]at hi;cases hi;obtain⟨a,rfl⟩:=c19 (d:=d) h1;exact⟨a,r,rfl,h⟩
theorem y2z{d:Nat}{zs:List AV}(h:Shp T (d+2) 52 zs):∃x:Sy,zs=(encSy x).cells:=by simp only[Shp,T52,T3,Jx,w1u,yK,xN]at h;obtain⟨_,_,rfl,⟨a,rfl,ha⟩,_,_,rfl,⟨b,rfl,hb⟩,rfl⟩:=h;exact⟨⟨a,b⟩,rfl⟩
theorem c1u {l:List (String×DataW Unit)} {w:World} (h:laidMetH Tryz.prog l w) (hl:l.filter (fun x=>x.1== "internal/strconv.uint64pow10")=[("internal/strconv.uint64pow10",Lib.tabData .u64 Lib.pow10Tab)]):EOK Tryz.prog w (·<w.heap.size):=fun g pr hm=>by
 have e:=List.mem_singleton.1 hm
 cases e
 obtain⟨h1,t,fr,h2⟩:=f1u (t:=355) (e:=258) (n:=20) h hl (by kernel_rfl) (by kernel_rfl) (by kernel_rfl) (by kernel_rfl) (by kernel_rfl) (by kernel_rfl)
 exact⟨h1,_,t,fr,rfl,h2⟩
end Go.Abs
namespace Go.Abs
open Go Go.RowKit Go.Proofs.YtjmkolhkojgjpaaGreatDoor
end Go.Abs
namespace Go.Abs
open Go Go.RowKit Go.Proofs.YtjmkolhkojgjpaaGreatDoor
theorem w23{d:Nat}{zs:List AV}(h:Shp T (d+3) 26 zs):∃w:List Sy,zs=[.list (w.map encSy)]:=by
 rw[Shp,T26]at h;simp only[Jx]at h;obtain⟨ei,xs,he,rfl,hl,hx⟩:=h;rw[T52]at he;cases he;obtain⟨l,rfl,hq⟩:=Ox (g:=encSy) (Q:=fun _=>True) xs (fun x z1=>by
  obtain⟨zs,rfl,hz⟩:=hx x z1;obtain⟨v,rfl⟩:=y2z (d:=d) hz;exact⟨v,rfl,trivial⟩)
 exact⟨l,rfl⟩
theorem x2s{d:Nat}{zs:List AV}(h:Shp T (d+2) 66 zs):∃s:Int×Int,zs=(pqr s).cells:=by rw[Shp,T66]at h;simp only[Jx,c10]at h;obtain⟨z1,r1,rfl,a1,z2,r2,rfl,a2,rfl⟩:=h;obtain⟨n,rfl,hn⟩:=Jj (d:=d) a1;obtain⟨m,rfl,hm⟩:=Jj (d:=d) a2;exact⟨(n,m),rfl⟩
theorem q2g{d:Nat}{zs:List AV}(h:Shp T (d+3) 41 zs):∃w:List (Int×Int),zs=[.list (w.map pqr)]:=by
 rw[Shp,T41]at h;simp only[Jx]at h;obtain⟨ei,xs,he,rfl,hl,hx⟩:=h;rw[T66]at he;cases he;obtain⟨l,rfl,hq⟩:=Ox (g:=pqr) (Q:=fun _=>True) xs (fun x z1=>by
  obtain⟨zs,rfl,hz⟩:=hx x z1;obtain⟨v,rfl⟩:=x2s (d:=d) hz;exact⟨v,rfl,trivial⟩)
 exact⟨l,rfl⟩
theorem d1z{d:Nat}{ts:List Nat}{xs:List AV}(h:Y5 T (d+4) (43::ts) xs):∃(x:EqC) (r:List AV),xs=Hl x::r∧Y5 T (d+4) ts r:=by obtain⟨i,zs,r,hi,rfl,h1,h⟩:=h;rw[T43]at hi;cases hi;rw[Shp,T43]at h1;simp only[Jx,w1u,yK,xN]at h1;obtain⟨_,_,rfl,h1,_,_,rfl,h2,_,_,rfl,h3,rfl⟩:=h1;obtain⟨v,rfl,_⟩:=Jj (d:=d+2) h1;obtain⟨ps,rfl⟩:=q2g (d:=d) h2;obtain⟨w,rfl⟩:=w23 (d:=d) h3;exact⟨⟨v,ps,w⟩,r,rfl,h⟩
end Go.Abs
