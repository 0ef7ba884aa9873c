/- Part Wh of the proof: steps on the way to the last part. No condition. -/
import Derived.Test.YtjmkolhkojgjpaaGreatDoorWg
import Derived.Test.YtjmkolhkojgjpaaGreatDoorWd
import Derived.Test.YtjmkolhkojgjpaaGreatDoorWf
import Derived.Test.YtjmkolhkojgjpaaGreatDoorWe
set_option linter.all false
open Int renaming le_refl->xC
open List renaming mem_map->zO,mergeSort_perm->wP,all_eq_true->zX,mem_singleton->zP,mem_cons->yB,mem_append->zV,mem_append_left->yY,mem_append_right->vI,getElem?_eq_some_iff->zB,getElem?_append_left->zH,getElem?_append_right->zF,getElem?_eq_getElem->zI
open Nat renaming mul_le_mul->vU
open Bool renaming not_eq_false->tM,and_eq_true->z_
open Prod renaming ext->u6
set_option linter.unusedSimpArgs false
set_option maxRecDepth 100000
open Go.Proofs.Tryz
namespace Go.Abs
section
open Go Go.Proofs Go.Maps Go.RowKit
def f2i(p q:Prd):L5 (Qh p) (Qh q)=Ma (Qu p 0) (Qu q 0):=by
 have h1:decide (((Qu p 0).1:Int)<(Qu q 0).1)=decide ((Qu p 0).1<(Qu q 0).1):=by rw[decide_eq_decide];omega
 have h2:decide (((Qu p 0).1:Int)=(Qu q 0).1)=decide ((Qu p 0).1=(Qu q 0).1):=by rw[decide_eq_decide];omega
 unfold L5 Ma Qh;simp only[h1,h2]
attribute [local irreducible] Wt Wp Tt Ws u1z Aq Uj Qu
end
section
open Go Go.Proofs Go.Maps Go.RowKit
attribute [local irreducible] Q4 E9
attribute [local irreducible] Ux
end
section
open Go Go.Proofs Go.Maps Go.RowKit
attribute [local irreducible] Qv Qh g04 T0 Tq q02 Wu
end
section
open Go Go.Proofs Go.Maps Go.RowKit
attribute [local irreducible] Ay Qv Qh Xq Ia Hj Rp stepG Pr Cw q02 Wu
end
section
open Go Go.Proofs Go.Maps Go.RowKit
attribute [local irreducible] W7 L4 Ad
end
section
open Go Go.Proofs Go.Maps Go.RowKit
attribute [local irreducible] z07 y0n Wu
attribute [local irreducible] Ry
attribute [local irreducible] toL
end
section
open Go Go.Proofs Go.Maps Go.RowKit
attribute [local irreducible] Qh Q4
end
section
open Go Go.Proofs Go.Maps Go.RowKit
abbrev PQ:=(Int×Int)×List Sy
def q1t{good:Int×Int->Bool}{succ:Int×Int->List (Sy×(Int×Int))}{f n:Nat}{L:List PQ}(h:L[n]? =none):Xi good succ f n L=(none,L):=by
 cases f with
 |zero=>rw[Xi]
 |succ f=>rw[Xi,h]
def y16{good:Int×Int->Bool}{succ:Int×Int->List (Sy×(Int×Int))}{f n:Nat}{L:List PQ}{s:Int×Int}{w:List Sy}(h:L[n]?=some (s,w)):Xi good succ (f+1) n L=if good s=true then(some w,L)else Xi good succ f (n+1) (Ra L w (succ s)):=by rw[Xi,h]
def j0y(L:List PQ)(w:List Sy):Ra L w ([]:List (Sy×(Int×Int)))=L:=rfl
attribute [local irreducible] Ao toL Xi Ra Ml Ys Fu
end
section
open Go Go.Proofs Go.Maps Go.RowKit
instance inS_dec (a:Aut) (s:Int):Decidable (inS a s):=by unfold inS;exact inferInstance
attribute [local irreducible] Dq Fu
abbrev Ud (l:List Nat):List Int:=l.map λx:Nat=>(x:Int)
attribute [local irreducible] eqS
end
def q0s{a b:Aut}(ha:Dfa a)(hb:OkA b)(ht:b.types=a.types){w:List Sy}(hw:∀z∈w,Q9 a z)(h1:Eo b w=true)(h2:Eo a w=false):∃v:List Sy,v.length+1<=b.fin.length * (a.fin.length+1)/\(∀z∈v,Q9 a z)/\Eo b v=true/\Eo a v=false:=by
 have hz:inS b 0:=⟨xC _,by have:=hb.fin;omega⟩
 have z1:∀v,Eo b v=true↔Ft b 0 v:=λv=>by unfold Eo;rw[Kw];simp
 have hst:∀l∈(W9 a.fin.length).map (λi=>[i]),∀x,Q9 a x->Qv a l x=[]\/Qv a l x∈(W9 a.fin.length).map (λi=>[i]):=λl hl x hx=>by obtain⟨i,hi,rfl⟩:=zO.1 hl;obtain⟨h3,h4⟩:=ha.next (Wy.1 hi) hx;rw[h4];exact .inr (zO.2 ⟨_,Wy.2 h3,rfl⟩)
 obtain⟨k,_,hk⟩:=f2l (a:=a) (b:=b) (s:=(0,[0])) w.length ⟨w,rfl,hw,(z1 w).1 h1,h2⟩;have z6:=k1f hst (b:=b) (s:=(0,[0])) ⟨hz,.inr (zO.2 ⟨0,Wy.2 ha.zero,rfl⟩)⟩ hk;obtain⟨⟨v,hv,z7,v1,v2⟩,_⟩:=hk;have hl:((W9 a.fin.length).map λi=>[i]).length=a.fin.length:=by simp[W9]
 rw[hl]at z6;exact⟨v,by rw[hv];exact z6,z7,(z1 v).2 v1,v2⟩
def y28{a b:Aut}(ha:Dfa a)(hb:Dfa b)(ht:b.types=a.types)(z1:a.fin.length<=8)(z6:b.fin.length<=8){w:List Sy}(h:FirstP (Q9 a) (wnd neB a b) w):w.length<=4096:=by
 have hh:=h.hit;unfold wnd neB at hh;cases h1:Eo a w with
 |true=>
  cases h2:Eo b w with
  |true=>rw[h1,h2]at hh;cases hh
  |false=>obtain⟨v,v1,v2,v3,v4⟩:=q0s hb ha.ok ht.symm (λz hz=>(Ei ht).2 (h.okw z hz)) h1 h2;have:=q1n (h.least v (λz hz=>(Ei ht).1 (v2 z hz)) (by unfold wnd neB;rw[v3,v4];rfl));have:=vU z1 (show b.fin.length+1<=9 by omega);omega
 |false=>
  cases h2:Eo b w with
  |false=>rw[h1,h2]at hh;cases hh
  |true=>obtain⟨v,v1,v2,v3,v4⟩:=q0s ha hb.ok ht h.okw h2 h1;have:=q1n (h.least v v2 (by unfold wnd neB;rw[v3,v4];rfl));have:=vU z6 (show a.fin.length+1<=9 by omega);omega
structure EqC where
 verdict:Int
 pairs:List (Int×Int)
 word:List Sy
def d2d:EqC:=⟨0,[],[]⟩
def Em(a b:Aut):Int:=if Wu a≠0 then Wu a else if Wu b≠0 then Wu b else if a.types≠b.types then 15 else 0
def Yr(a b:Aut):Int:=if Em a b≠0 then Em a b else if Dq a≠0\/Dq b≠0 then 3 else 0
def v0y(a b:Aut):EqC×Int:=if Yr a b≠0 then(d2d,Yr a b)else match (Lc a b neB).1 with
 |some w=>(⟨2,[],w⟩,0)
 |none=>if 2048<(Y7 a b).length then(d2d,5)else(⟨1,Y8 (Y7 a b),[]⟩,0)
instance (a:Aut) (s:Int):Decidable (inS a s):=inferInstanceAs (Decidable (0<=s/\s<(a.fin.length:Int)))
def Sc(a b:Aut)(x:EqC):Int:=if x.verdict≠1/\x.verdict≠2 then 1 else if(x.verdict=1/\0<x.word.length)\/(x.verdict=2/\0<x.pairs.length)then 3
 else if 2048<x.pairs.length\/4096<x.word.length then 5 else if x.pairs.all (λs=>decide (inS a s.1/\inS b s.2))=false then 6 else w0t a.types x.word
def u0c(a b:Aut)(x:EqC):Int:=if Yr a b≠0 then Yr a b else if Sc a b x≠0 then Sc a b x else if(if x.verdict=1 then L9 a b x.pairs else Eo a x.word != Eo b x.word)=true then 0 else 18
def R5(a b:Aut):Int:=if Em a b≠0 then Em a b else if(W7 a).1≠0 then(W7 a).1 else(W7 b).1
def Nk(a b:Aut):(List Sy×Bool)×Int:=if R5 a b≠0 then(([],false),R5 a b)else match (Lc (W7 a).2 (W7 b).2 x15).1 with
 |some w=>((w,false),0)
 |none=>(([],true),0)
def Z6(a b:Aut):(List Sy×Bool)×Int:=if R5 a b≠0 then(([],false),R5 a b)else match (Lc (W7 a).2 (W7 b).2 neB).1 with
 |some w=>((w,true),0)
 |none=>(([],false),0)
def E6{a b:Aut}:Em a b=0↔OkA a/\OkA b/\b.types=a.types:=by
 unfold Em;by_cases h1:Wu a≠0
 ·rw[if_pos h1];exact⟨λh=>absurd h h1,λh=>absurd ((I8 a).2 h.1) h1⟩
 rw[if_neg h1];by_cases h2:Wu b≠0
 ·rw[if_pos h2];exact⟨λh=>absurd h h2,λh=>absurd ((I8 b).2 h.2.1) h2⟩
 rw[if_neg h2];by_cases h3:a.types≠b.types
 ·rw[if_pos h3];exact⟨λh=>(by cases h),λh=>absurd h.2.2.symm h3⟩
 rw[if_neg h3];exact⟨λ_=>⟨(I8 a).1 (Decidable.not_not.1 h1),(I8 b).1 (Decidable.not_not.1 h2),(Decidable.not_not.1 h3).symm⟩,λ_=>rfl⟩
def Px{a b:Aut}:Yr a b=0↔Dfa a/\Dfa b/\b.types=a.types:=by
 unfold Yr;by_cases h1:Em a b≠0
 ·rw[if_pos h1];exact⟨λh=>absurd h h1,λh=>absurd (E6.2 ⟨h.1.ok,h.2.1.ok,h.2.2⟩) h1⟩
 rw[if_neg h1];have hb:=E6.1 (Decidable.not_not.1 h1);by_cases h2:Dq a≠0\/Dq b≠0
 ·rw[if_pos h2];exact⟨λh=>(by cases h),λh=>h2.elim (λk=>absurd ((I1 a).2 h.1) k) (λk=>absurd ((I1 b).2 h.2.1) k)⟩
 rw[if_neg h2];exact⟨λ_=>⟨(I1 a).1 (Decidable.not_not.1 λk=>h2 (.inl k)),(I1 b).1 (Decidable.not_not.1 λk=>h2 (.inr k)),hb.2.2⟩,λ_=>rfl⟩
def f1c{a b:Aut}(ha:Dta a)(hb:Dta b)(ht:b.types=a.types){wn:Bool->Bool->Bool}{w:List Sy}(h:(Lc a b wn).1=some w):FirstP (Q9 a) (wnd wn a b) w:=by
 rcases Y1 ha hb ht wn with⟨v,L,h1,h2⟩|⟨L,h1,_⟩
 ·rw[h1]at h;obtain rfl:=Option.some.inj h;exact h2
 rw[h1]at h;cases h
def g1m{a b:Aut}(ha:Dfa a)(hb:Dfa b)(ht:b.types=a.types)(hn:(Lc a b neB).1=none):(Y7 a b).length<=a.fin.length * b.fin.length/\∀s∈Y7 a b,inS a s.1/\inS b s.2:=by
 obtain⟨h1,_,h3⟩:=Kf ⟨ha.ok,ha.det⟩ ⟨hb.ok,hb.det⟩ ht hn;have z1:∀s∈Y7 a b,inS a s.1/\inS b s.2:=λs hs=>by
  obtain⟨v,hv,e⟩:=(h3 s).1 hs;rw[Ik]at e;rw[<-e];have st:∀ {c:Aut},Dfa c->∀(w:List Sy) (s:Int),inS c s->(∀x∈w,Q9 c x)->inS c (stF c s w):=λ{c} hc w=>by
   induction w with
   |nil=>intro s hs _;exact hs
   |cons x w ih=>intro s hs hw;exact ih _ (hc.next hs (hw x (by simp))).1 λy hy=>hw y (by simp[hy])
  exact⟨st ha v 0 ha.zero hv,st hb v 0 hb.zero λx hx=>(Ei ht).2 (hv x hx)⟩
 refine⟨?_,z1⟩;rw[<-Pj];exact Yd _ _ h1 λs hs=>S1 (z1 s hs).1 (z1 s hs).2
def y19{a b:Aut}(hf:Yr a b=0)(z1:a.fin.length<=8)(z6:b.fin.length<=8):(v0y a b).2=0/\u0c a b (v0y a b).1=0/\(((v0y a b).1.verdict=1/\∀w,(∀x∈w,Q9 a x)->Eo a w=Eo b w)\/((v0y a b).1.verdict=2/\∃w,(∀x∈w,Q9 a x)/\Eo a w≠Eo b w)):=by
 obtain⟨ha,hb,ht⟩:=Px.1 hf;have da:Dta a:=⟨ha.ok,ha.det⟩
 have db:Dta b:=⟨hb.ok,hb.det⟩
 unfold v0y;rw[if_neg (λk=>k hf)];cases hs:(Lc a b neB).1 with
 |some w=>
  have hw:=f1c da db ht hs;have hl:=y28 ha hb ht z1 z6 hw;have z7:(Eo a w != Eo b w)=true:=hw.hit;refine⟨rfl,?_,.inr ⟨rfl,w,hw.okw,by simpa using z7⟩⟩;have hp:Sc a b ⟨2,[],w⟩=0:=by unfold Sc;rw[if_neg (by simp),if_neg (by simp),if_neg (by simp;omega),if_neg (by simp)];exact(Vh w).2 λx hx=>(Je _ _).2 (hw.okw x hx)
  unfold u0c;rw[if_neg (λk=>k hf),if_neg (λk=>k hp)];simp only;rw[if_neg (by decide:¬(2:Int)=1),if_pos z7]
 |none=>
  obtain⟨hl,z8⟩:=g1m ha hb ht hs;have:=vU z1 z6;simp only;rw[if_neg (by omega)];refine⟨rfl,?_,.inl ⟨rfl,g0v ha hb ht (q0h ha hb ht hs)⟩⟩;have za:(Y8 (Y7 a b)).length=(Y7 a b).length:=(wP _ _).length_eq;have hp:Sc a b ⟨1,Y8 (Y7 a b),[]⟩=0:=by
   unfold Sc;rw[if_neg (by simp),if_neg (by simp),if_neg (by simp;omega),if_neg]
   ·rfl
   simp only[tM];rw[zX];intro s hm;exact decide_eq_true (z8 s (Yh.1 hm))
  unfold u0c;rw[if_neg (λk=>k hf),if_neg (λk=>k hp)];simp only;rw[if_pos trivial,if_pos (q0h ha hb ht hs)]
section
section
variable {a b:Aut}
def Be(hb:Em a b=0):R5 a b=0\/R5 a b=5:=by
 obtain⟨h1,h2,_⟩:=E6.1 hb;unfold R5;rw[if_neg (λk=>k hb)];by_cases h:(W7 a).1≠0
 ·rw[if_pos h];exact(C3 h1).elim (λk=>absurd k h) .inr
 rw[if_neg h];exact C3 h2
def Lv(hb:Em a b=0):R5 a b=0↔(W7 a).1=0/\(W7 b).1=0:=by
 unfold R5;rw[if_neg (λk=>k hb)];by_cases h:(W7 a).1≠0
 ·rw[if_pos h];exact⟨λk=>absurd k h,λk=>absurd k.1 h⟩
 rw[if_neg h];exact⟨λk=>⟨Decidable.not_not.1 h,k⟩,λk=>k.2⟩
def Ae{a:Aut}(h:(W7 a).1=0):W7 a=(0,(W7 a).2):=u6 h rfl
def Mx(hb:Em a b=0)(ho:R5 a b=0)(wn:Bool->Bool->Bool):
  (∃w,(Lc (W7 a).2 (W7 b).2 wn).1=some w/\FirstP (Q9 a) (wnd wn a b) w)\/((Lc (W7 a).2 (W7 b).2 wn).1=none/\∀v,(∀z∈v,Q9 a z)->wnd wn a b v=false):=by
 obtain⟨h1,h2,h3⟩:=E6.1 hb;obtain⟨d1,d2⟩:=(Lv hb).1 ho;have e:=Z5 h1 h2 h3 (Ae d1) (Ae d2) wn;rcases q0n h1 h2 h3 (Ae d1) (Ae d2) wn with⟨w,L,k1,k2⟩|⟨L,k1,k2⟩
 ·exact .inl ⟨w,by rw[<-e,k1],k2⟩
 exact .inr ⟨by rw[<-e,k1],k2⟩
def u1b(hb:Em a b=0)(ho:R5 a b=0):(∃w,Nk a b=((w,false),0)/\FirstP (Q9 a) (wnd x15 a b) w)\/(Nk a b=(([],true),0)/\∀v,(∀z∈v,Q9 a z)->Eo b v=true->Eo a v=true):=by
 unfold Nk;rw[if_neg (λk=>k ho)];rcases Mx hb ho x15 with⟨w,h1,h2⟩|⟨h1,h2⟩
 ·rw[h1];exact .inl ⟨w,rfl,h2⟩
 rw[h1];refine .inr ⟨rfl,λv hv hb=>?_⟩;have:=h2 v hv;unfold wnd x15 at this;rw[hb]at this;simpa using this
def Mc(hb:Em a b=0)(ho:R5 a b=0):(∃w,Z6 a b=((w,true),0)/\FirstP (Q9 a) (wnd neB a b) w)\/(Z6 a b=(([],false),0)/\∀v,(∀z∈v,Q9 a z)->Eo a v=Eo b v):=by
 unfold Z6;rw[if_neg (λk=>k ho)];rcases Mx hb ho neB with⟨w,h1,h2⟩|⟨h1,h2⟩
 ·rw[h1];exact .inl ⟨w,rfl,h2⟩
 rw[h1];refine .inr ⟨rfl,λv hv=>?_⟩;have:=h2 v hv;unfold wnd neB at this;simpa using this
def k15(ho:R5 a b≠0):Nk a b=(([],false),R5 a b):=by unfold Nk;rw[if_pos ho]
def x0d(ho:R5 a b≠0):Z6 a b=(([],false),R5 a b):=by unfold Z6;rw[if_pos ho]
def u22{w:List Sy}(h:FirstP (Q9 a) (wnd x15 a b) w):Eo b w=true/\Eo a w=false:=by have hh:=h.hit;unfold wnd x15 at hh;rw[z_]at hh;exact⟨hh.1,by simpa using hh.2⟩
def v2z{w:List Sy}(h:FirstP (Q9 a) (wnd neB a b) w):Eo a w≠Eo b w:=by have hh:=h.hit;unfold wnd neB at hh;simpa using hh
end
end
def q11{a b:Aut}(hf:Yr a b=0){l:List (Int×Int)}(hl:l.length<=2048)(z1:∀s∈l,inS a s.1/\inS b s.2):u0c a b ⟨1,l,[]⟩=if L9 a b l=true then 0 else 18:=by
 have hp:Sc a b ⟨1,l,[]⟩=0:=by
  unfold Sc;rw[if_neg (by simp),if_neg (by simp),if_neg (by simp;omega),if_neg]
  ·rfl
  simp only[tM];rw[zX];exact λs hm=>decide_eq_true (z1 s hm)
 unfold u0c;rw[if_neg (λk=>k hf),if_neg (λk=>k hp)];simp only;rw[if_pos trivial]
def q3q:Prd:=[[⟨-1099511627776,1099511627776⟩]]
def q3t:Prd:=[[⟨-1099511627776,4⟩]]
def v2c:Prd:=[[⟨5,1099511627776⟩]]
def exQ:Aut:=⟨1,[false,true],[⟨0,1,q3q⟩,⟨1,0,q3q⟩]⟩
def exR:Aut:=⟨1,[false,true],[⟨0,1,q3t⟩,⟨0,0,v2c⟩,⟨1,0,q3t⟩,⟨1,1,v2c⟩]⟩
def q3w:Dq exQ=0:=by decide+kernel
def q3g:Dq exR=0:=by decide+kernel
def F9:Dfa exQ:=(I1 _).1 q3w
def c0r:Dfa exR:=(I1 _).1 q3g
def d2n:Wu exQ=0:=by decide+kernel
def f2z:Wu exR=0:=by decide+kernel
def q15:Yr exQ exR=0:=Px.2 ⟨F9,c0r,rfl⟩
def B7:Yr exQ exQ=0:=Px.2 ⟨F9,F9,rfl⟩
def c0n:(Fu exQ exR 0 0).1=some [⟨0,5⟩]:=by kernel_rfl
def k1x:(Fu exQ exQ 0 0).1=none:=by kernel_rfl
def d2c:(j2b exQ exR x15).1=some [⟨0,-1099511627776⟩,⟨0,5⟩]:=by kernel_rfl
def x2j:y0c exQ exQ=[(0,0),(1,1)]:=by kernel_rfl
def y2h:L9 exQ exQ [(0,0)]=false:=by kernel_rfl
def xqC:List Prd:=[q3q]
def xrC:List Prd:=[q3t,v2c]
def xqQ:List (List Int):=[[0],[1]]
def k14:(Cq exQ.types (onA exQ)).1=0/\(Cq exQ.types (onA exQ)).2=xqC:=by decide+kernel
def d1z:(Cq exR.types (onA exR)).1=0/\(Cq exR.types (onA exR)).2=xrC:=by decide+kernel
def j1k:Ks exQ xqC=some xqQ:=by decide+kernel
def g1t:Ks exR xrC=some xqQ:=by decide+kernel
def k1c:Ia exQ xqC xqQ=exQ:=by kernel_rfl
def q2k:Ia exR xrC xqQ=exR:=by kernel_rfl
def v2m:Cw exQ=false:=by decide+kernel
def k2k:Cw exR=false:=by decide+kernel
def w21{a d:Aut}{C:List Prd}{Q:List (List Int)}(hk:Wu a=0)(hm:(Cq a.types (onA a)).1=0/\(Cq a.types (onA a)).2=C)(hs:Ks a C=some Q)(hd:Ia a C Q=d)(hb:Cw d=false):W7 a=(0,d):=by
 have z6:Tq a.types (onA a)=(0,C):=by rw[<-x1r];exact u6 hm.1 hm.2
 have z1:Ay a=(0,C,Q):=by
  rw[Ay,if_neg (λk=>k hk),z6];rw[if_neg (by simp)];split
  ·rename_i h;have h2:Ks a C=none:=h;rw[hs]at h2;cases h2
  rename_i R h;have h2:Ks a C=some R:=h;rw[hs]at h2;rw[<-Option.some.inj h2]
 rw[W7,z1,if_neg (by simp)];show Xq (Ia a C Q)=_;rw[hd,u0d,hb];rfl
def By:W7 exQ=(0,exQ):=w21 d2n k14 j1k k1c v2m
def Bo:W7 exR=(0,exR):=w21 f2z d1z g1t q2k k2k
def u26:Em exQ exR=0:=E6.2 ⟨F9.ok,c0r.ok,rfl⟩
def c0o:R5 exQ exR=0:=(Lv u26).2 ⟨by rw[By],by rw[Bo]⟩
def w2t:v0y exQ exR=(⟨2,[],[⟨0,5⟩]⟩,0):=by rw[v0y,if_neg (λk=>k q15),<-Fv F9 c0r rfl,c0n]
def v1b:(Lc exQ exQ neB).1=none:=by rw[<-Fv F9 F9 rfl,k1x]
def d0b:Y8 (Y7 exQ exQ)=[(0,0),(1,1)]:=by obtain⟨h1,h2,h3⟩:=Kf ⟨F9.ok,F9.det⟩ ⟨F9.ok,F9.det⟩ rfl v1b;rw[h2,x2j];exact Fy (Ho (by decide)) (by simp[pLt]) λs=>Yh
def z1j:v0y exQ exQ=(⟨1,[(0,0),(1,1)],[]⟩,0):=by
 have hl:(Y7 exQ exQ).length=2:=by rw[<-(wP (Y7 exQ exQ) pLe).length_eq];show(Y8 (Y7 exQ exQ)).length=2;rw[d0b];rfl
 rw[v0y,if_neg (λk=>k B7),v1b];simp only;rw[if_neg (by omega),d0b]
def j2e:Z6 exQ exR=(([⟨0,5⟩],true),0):=by rw[Z6,if_neg (λk=>k c0o),By,Bo,<-Fv F9 c0r rfl,c0n]
def x2z:Nk exQ exR=(([⟨0,-1099511627776⟩,⟨0,5⟩],false),0):=by rw[Nk,if_neg (λk=>k c0o)];have:=Z5 F9.ok c0r.ok rfl By Bo x15;rw[By,Bo,<-this,d2c]
def u2o:u0c exQ exR ⟨2,[],[⟨0,5⟩]⟩=0:=by have:=(y19 q15 (by decide) (by decide)).2.1;rw[w2t]at this;exact this
def y2x:u0c exQ exQ ⟨1,[(0,0),(1,1)],[]⟩=0:=by have:=(y19 B7 (by decide) (by decide)).2.1;rw[z1j]at this;exact this
def x2r:u0c exQ exQ ⟨1,[(0,0)],[]⟩=18:=by rw[q11 B7 (by decide) (λs hs=>by rw[zP]at hs;subst hs;decide),y2h];rfl
def f06:List Iv->Int->Option Int
 |[],_=>none
 |x::l,n=>if n<=x.hi then some (max x.lo n)else f06 l n
def x0b:List Iv->Int->Int
 |[],n=>n
 |x::l,n=>x0b l (if x.lo<=n/\n<=x.hi then x.hi+1 else n)
def d0m:List (List Iv)->Int->Option Int
 |[],n=>some n
 |l::I,n=>match f06 l n with|some m=>d0m I m|none=>none
def c0d:List (List Iv)->Int->Int
 |[],n=>n
 |l::O,n=>c0d O (x0b l n)
def x0x:∀(l:List Iv) (n:Int),Sep l->match f06 l n with|some m=>M l m/\n<=m/\∀k,M l k->n<=k->m<=k|none=>∀k,M l k->k<n
 |[],n,_=>λk h=>absurd h M7
 |x::l,n,h=>by
  have hx:=h.1 x (by simp);have sx:=y17 h;rw[f06];by_cases h1:n<=x.hi
  ·rw[if_pos h1];refine⟨Et.2 (.inl (by omega)),by omega,λk hk hn=>?_⟩;rcases Et.1 hk with k1|k1
   ·omega
   have:=sx k k1;omega
  rw[if_neg h1];have ih:=x0x l n (B0 h);cases hc:f06 l n with
  |some m=>
   rw[hc]at ih;obtain⟨i1,i2,i3⟩:=ih;refine⟨Et.2 (.inr i1),i2,λk hk hn=>?_⟩;rcases Et.1 hk with k1|k1
   ·omega
   exact i3 k k1 hn
  |none=>
   rw[hc]at ih;intro k hk;rcases Et.1 hk with k1|k1
   ·omega
   exact ih k k1
def V3:∀(l:List Iv) (n:Int),n<=x0b l n/\(∀k,n<=k->¬M l k->x0b l n<=k)/\(x0b l n=n->¬M l n)
 |[],n=>⟨xC _,λk h _=>h,λ_=>M7⟩
 |x::l,n=>by
  rw[x0b];by_cases h:x.lo<=n/\n<=x.hi
  ·rw[if_pos h];obtain⟨i1,i2,i3⟩:=V3 l (x.hi+1);refine⟨by omega,λk hk hn=>i2 k ?_ (λhm=>hn (Et.2 (.inr hm))),λe=>by omega⟩;have:¬(x.lo<=k/\k<=x.hi):=λhm=>hn (Et.2 (.inl hm));omega
  rw[if_neg h];obtain⟨i1,i2,i3⟩:=V3 l n;exact⟨i1,λk hk hn=>i2 k hk λhm=>hn (Et.2 (.inr hm)),λe hm=>(Et.1 hm).elim h (i3 e)⟩
def v0c:∀(I:List (List Iv)) (n:Int),(∀l∈I,Sep l)->match d0m I n with|some m=>n<=m/\(∀k,n<=k->(∀l∈I,M l k)->m<=k)/\(m=n->∀l∈I,M l n)|none=>∀k,n<=k->¬ ∀l∈I,M l k
 |[],n,_=>⟨xC _,λk h _=>h,λ_ l h=>by cases h⟩
 |l::I,n,h=>by
  have h1:=x0x l n (h l (by simp));rw[d0m];cases hc:f06 l n with
  |none=>rw[hc]at h1;intro k hk hm;have:=h1 k (hm l (by simp));omega
  |some m=>
   rw[hc]at h1;obtain⟨a1,a2,a3⟩:=h1;have ih:=v0c I m λl hl=>h l (by simp[hl]);simp only;cases hd:d0m I m with
   |none=>rw[hd]at ih;intro k hk hm;exact ih k (a3 k (hm l (by simp)) hk) λj hj=>hm j (by simp[hj])
   |some m'=>
    rw[hd]at ih;obtain⟨b1,b2,b3⟩:=ih;refine⟨by omega,λk hk hm=>b2 k (a3 k (hm l (by simp)) hk) λj hj=>hm j (by simp[hj]),λe j hj=>?_⟩;have e1:m=n:=by omega
    rcases yB.1 hj with rfl|hj
    ·rw[<-e1];exact a1
    rw[<-e1];exact b3 (by omega) j hj
def x04:∀(O:List (List Iv)) (n:Int),n<=c0d O n/\(∀k,n<=k->(∀l∈O,¬M l k)->c0d O n<=k)/\(c0d O n=n->∀l∈O,¬M l n)
 |[],n=>⟨xC _,λk h _=>h,λ_ l h=>by cases h⟩
 |l::O,n=>by
  rw[c0d];obtain⟨h1,h2,h3⟩:=V3 l n;obtain⟨i1,i2,i3⟩:=x04 O (x0b l n);refine⟨by omega,λk hk hm=>i2 k (h2 k hk (hm l (by simp))) λj hj=>hm j (by simp[hj]),λe j hj=>?_⟩;have e1:x0b l n=n:=by omega
  rcases yB.1 hj with rfl|hj
  ·exact h3 e1
  have:=i3 (by rw[e,e1]) j hj;rw[e1]at this;exact this
def w2m(I O:List (List Iv))(n:Int):Option Int:=match d0m I n with|some m=>some (c0d O m)|none=>none
def Ls(I O:List (List Iv))(k:Int):Prop:=(∀l∈I,M l k)/\∀l∈O,¬M l k
def g1x(I O:List (List Iv))(n:Int)(h:∀l∈I,Sep l):match w2m I O n with|some m=>n<=m/\(∀k,n<=k->Ls I O k->m<=k)/\(m=n->Ls I O n)|none=>∀k,n<=k->¬Ls I O k:=by
 have h1:=v0c I n h;unfold w2m;cases hc:d0m I n with
 |none=>rw[hc]at h1;exact λk hk hg=>h1 k hk hg.1
 |some m=>
  rw[hc]at h1;obtain⟨a1,a2,a3⟩:=h1;obtain⟨b1,b2,b3⟩:=x04 O m;refine⟨by omega,λk hk hg=>b2 k (a2 k hk hg.1) hg.2,λe=>?_⟩;have e1:m=n:=by omega
  refine⟨a3 e1,?_⟩;have:=b3 (by omega);rw[e1]at this;exact this
def Ff(t:Nat)(ps:List Prd):List (List Iv):=ps.map λp=>p.getD t []
structure FitP (T:Nat) (ins outs:List Prd) (P:Prd):Prop where
 wf:PWf T P
 mem:∀t n,PM P t n↔t<T/\inR n/\(∀p∈ins,PM p t n)/\∀p∈outs,¬PM p t n
def Va{ins outs:List Prd}{t:Nat}{n:Int}:Ls (Ff t ins) (Ff t outs) n↔(∀p∈ins,PM p t n)/\∀p∈outs,¬PM p t n:=by
 unfold Ls Ff;constructor
 ·rintro⟨h1,h2⟩;exact⟨λp hp=>Uz.2 (h1 _ (zO.2 ⟨p,hp,rfl⟩)),λp hp hm=>h2 _ (zO.2 ⟨p,hp,rfl⟩) (Uz.1 hm)⟩
 rintro⟨h1,h2⟩;refine⟨λl hl=>?_,λl hl hm=>?_⟩
 ·obtain⟨p,hp,rfl⟩:=zO.1 hl;exact Uz.1 (h1 p hp)
 obtain⟨p,hp,rfl⟩:=zO.1 hl;exact h2 p hp (Uz.2 hm)
def Nr(P:Prd):Option Sy:=if Ws P then none else some (Qh P)
def FitP.some{T:Nat}{ins outs:List Prd}{P:Prd}(h:FitP T ins outs P){t:Nat}{n:Int}(ht:t<T)(hb:∀t',t'<t->∀k,¬PM P t' k)(hn:inR n)(hg:Ls (Ff t ins) (Ff t outs) n)(hl:∀k,inR k->Ls (Ff t ins) (Ff t outs) k->n<=k):Nr P= .some ⟨t,n⟩:=by
 have hm:PM P t n:=(h.mem t n).2 ⟨ht,hn,Va.1 hg⟩;obtain⟨g1,g2,g3⟩:=Y9 h.wf ⟨t,n,hm⟩;unfold Nr;rw[if_neg (by rw[(Ub h.wf).2 ⟨t,n,hm⟩];simp)]
 congr 1
 rcases g3 ⟨t,n⟩ ⟨by simp,by simpa using ht,hn⟩ (by simpa using hm)with e|e
 ·exact e
 exfalso;have k:=(h.mem _ _).1 g2;rcases e with e|⟨e1,e2⟩
 ·simp only at e;exact hb _ (by have:=g1.1;omega) _ g2
 simp only at e1 e2;have e3:(Qh P).ty.toNat=t:=by omega
 rw[e3]at k;have:=hl _ k.2.1 (Va.2 k.2.2);omega
def FitP.none{T:Nat}{ins outs:List Prd}{P:Prd}(h:FitP T ins outs P)(hb:∀t',t'<T->∀k,¬PM P t' k):Nr P= .none:=by unfold Nr;rw[if_pos ((Rv h.wf).2 λt n hm=>hb t (h.wf.lt hm).1 n hm)]
def FitP.no{T:Nat}{ins outs:List Prd}{P:Prd}(h:FitP T ins outs P){t:Nat}(hb:∀k,inR k->¬Ls (Ff t ins) (Ff t outs) k)(k:Int):¬PM P t k:=λhm=>by have:=(h.mem t k).1 hm;exact hb k this.2.1 (Va.2 this.2.2)
def B1:Option Mv->List Prd
 |some m=>[m.on]
 |none=>[]
def Fe(a:Aut)(s:Int):Option Mv->List Prd
 |some _=>[]
 |none=>(mvS a s).map (·.on)
def z09{a:Aut}(h:OkA a){s:Int}{o:Option Mv}(ho:o∈Ec a s):FitP a.types.toNat (B1 o) (Fe a s o) (w0s a s o):=by
 have hw:=Bc h ho;refine⟨hw,λt n=>?_⟩;cases o with
 |some m=>
  constructor
  ·intro hm;exact⟨(hw.lt hm).1,(hw.lt hm).2,λp hp=>by rw[zP.1 hp];exact hm,λp hp=>by cases hp⟩
  rintro⟨_,_,h1,_⟩;exact h1 m.on (zP.2 rfl)
 |none=>
  unfold w0s Fe B1;rw[Hq (S9 (Jg h s)),Kh (Jg h s)];constructor
  ·rintro⟨⟨h1,h2⟩,h3⟩;exact⟨h1,h2,λp hp=>(by cases hp),λp hp hm=>h3 ⟨p,hp,hm⟩⟩
  rintro⟨h1,h2,_,h3⟩;exact⟨⟨h1,h2⟩,λ⟨p,hp,hm⟩=>h3 p hp hm⟩
def x2l{a b:Aut}(ha:OkA a)(hb:OkA b)(ht:b.types=a.types){s:Int×Int}{o r:Option Mv}(ho:o∈Ec a s.1)(hr:r∈Ec b s.2):FitP a.types.toNat (B1 o++B1 r) (Fe a s.1 o++Fe b s.2 r) (w07 a b s o r):=by
 have f1:=z09 ha ho;have f2:=z09 hb hr;rw[ht]at f2;refine⟨Ta f1.wf f2.wf.1,λt n=>?_⟩;unfold w07;rw[Er f1.wf.1 f2.wf.1,f1.mem,f2.mem];constructor
 ·rintro⟨⟨h1,h2,h3,h4⟩,_,_,h5,h6⟩;exact⟨h1,h2,λp hp=>(zV.1 hp).elim (h3 p) (h5 p),λp hp=>(zV.1 hp).elim (h4 p) (h6 p)⟩
 rintro⟨h1,h2,h3,h4⟩;exact⟨⟨h1,h2,λp hp=>h3 p (yY _ hp),λp hp=>h4 p (yY _ hp)⟩,h1,h2,λp hp=>h3 p (vI _ hp),λp hp=>h4 p (vI _ hp)⟩
def c1g(a b:Aut)(s:Int×Int)(o r:Option Mv):c1d a b s o r=(Nr (w07 a b s o r)).map λx=>(x,(Fg o,Fg r)):=by
 unfold c1d Nr;by_cases h:Ws (w07 a b s o r)=true
 ·rw[if_pos h,if_pos h];rfl
 rw[if_neg h,if_neg h];rfl
def q0w(a:Aut)(s:Int):Bool:=(Nr (w0s a s none)).isSome
def Zc(a:Aut):Bool:=y0n a && (W9 a.fin.length).all λs=> !q0w a s
def v01{a:Aut}(h:OkA a)(s:Int):q0w a s=false↔∀x,Q9 a x->∃m∈mvS a s,Ry m.on x=true:=by
 have hw:=Bc h (s:=s) (Oa.2 (.inl rfl));unfold q0w Nr;constructor
 ·intro hl x hx;have hv:Ws (w0s a s none)=true:=by
   by_cases hv:Ws (w0s a s none)=true
   ·exact hv
   rw[if_neg hv]at hl;cases hl
  have h1:=(Rv hw).1 hv x.ty.toNat x.num;have h2:¬ ∀m∈mvS a s,Ry m.on x=false:=λk=>h1 ((O6 h s hx).2 k);simpa using h2
 intro z1;rw[if_pos]
 ·rfl
 refine(Rv hw).2 λt n hm=>?_;have z6:=hw.lt hm;have hx:Q9 a ⟨t,n⟩:=U8.1 ⟨by simp,by simpa using z6.1,z6.2⟩;obtain⟨m,h1,h2⟩:=z1 _ hx;have:=(O6 h s hx).1 (by unfold f03;simpa using hm) m h1;rw[h2]at this;cases this
def x1l{a:Aut}(h:OkA a):Zc a=true↔Dfa a:=by
 unfold Zc;rw[z_,zX];constructor
 ·rintro⟨h1,h2⟩;refine⟨h,(z0w h.wfA).1 h1,λs s0 s1 x hx=>?_⟩;obtain⟨m,k1,k2⟩:=(v01 h s).1 (by have:=h2 s (Wy.2 ⟨s0,s1⟩);simpa using this) x hx;exact⟨m,(Tf.1 k1).1,(Tf.1 k1).2,k2⟩
 intro hd;refine⟨(z0w h.wfA).2 hd.det,λs hs=>?_⟩;have hs:=Wy.1 hs;have:=(v01 h s).2 λx hx=>by obtain⟨m,k1,k2,k3⟩:=hd.full s hs.1 hs.2 x hx;exact⟨m,Tf.2 ⟨k1,k2⟩,k3⟩
 rw[this];rfl
def j0s(a b:Aut):Yr a b=if Em a b≠0 then Em a b else if Zc a=false\/Zc b=false then 3 else 0:=by
 unfold Yr;by_cases h1:Em a b≠0
 ·rw[if_pos h1,if_pos h1]
 rw[if_neg h1,if_neg h1];obtain⟨ha,hb,_⟩:=E6.1 (Decidable.not_not.1 h1);have e:∀ {c:Aut},OkA c->(Zc c=false↔Dq c≠0):=λ{c} hc=>by rw[<-Bool.not_eq_true,x1l hc,<-I1]
 by_cases h2:Dq a≠0\/Dq b≠0
 ·rw[if_pos h2,if_pos (h2.imp (e ha).2 (e hb).2)]
 rw[if_neg h2,if_neg (λk=>h2 (k.imp (e ha).1 (e hb).1))]
structure Vst where
 s:Int×Int
 fr:Nat
 on:Sy
 fst:Bool
structure VOk (V:List Vst) (L:List ((Int×Int)×List Sy)):Prop where
 len:V.length=L.length
 key:∀(i:Nat) (v:Vst) (e:(Int×Int)×List Sy),V[i]?=some v->L[i]?=some e->v.s=e.1
 way:∀(i:Nat) (v:Vst) (e:(Int×Int)×List Sy),V[i]?=some v->L[i]?=some e->(v.fst=true/\e.2=[])\/(v.fst=false/\v.fr<i/\∃e',L[v.fr]?=some e'/\e.2=e'.2++[v.on])
def VOk.start:VOk [⟨(0,0),0,⟨0,0⟩,true⟩] [((0,0),[])]:=by
 refine⟨rfl,λi v e hv he=>?_,λi v e hv he=>?_⟩
 ·have hi:i=0:=by have:=(zB.1 hv).1;simp at this;omega
  subst hi;simp at hv he;rw[<-hv,<-he]
 have hi:i=0:=by have:=(zB.1 hv).1;simp at this;omega
 subst hi;simp at hv he;rw[<-hv,<-he];exact .inl ⟨rfl,rfl⟩
def VOk.push{V:List Vst}{L:List ((Int×Int)×List Sy)}(h:VOk V L){n:Nat}{e:(Int×Int)×List Sy}(hn:L[n]?=some e)(t:Int×Int)(x:Sy):VOk (V++[⟨t,n,x,false⟩]) (L++[(t,e.2++[x])]):=by
 have z6:=(zB.1 hn).1;have hl:=h.len;refine⟨by simp[hl],λi v d hv hd=>?_,λi v d hv hd=>?_⟩
 ·by_cases hi:i<L.length
  ·rw[zH (by omega)]at hv hd;exact h.key i v d hv hd
  have z1:i=L.length:=by have:=(zB.1 hd).1;simp at this;omega
  rw[zF (by omega),z1]at hv hd;simp[hl]at hv hd;rw[<-hv,<-hd]
 by_cases hi:i<L.length
 ·rw[zH (by omega)]at hv hd;rcases h.way i v d hv hd with k|⟨k1,k2,e',k3,k4⟩
  ·exact .inl k
  exact .inr ⟨k1,k2,e',by rw[zH (by omega)];exact k3,k4⟩
 have z1:i=L.length:=by have:=(zB.1 hd).1;simp at this;omega
 rw[zF (by omega),z1]at hv hd;simp[hl]at hv hd;rw[<-hv,<-hd];exact .inr ⟨rfl,by simp;omega,e,by rw[zH z6];exact hn,rfl⟩
def VOk.pairs{V:List Vst}{L:List ((Int×Int)×List Sy)}(h:VOk V L):V.map (·.s)=L.map (·.1):=by
 refine List.ext_getElem (by simp[h.len]) λi h1 h2=>?_;have hl:i<L.length:=by simpa using h2
 have hv:i<V.length:=by rw[h.len];exact hl
 simp only[List.getElem_map];exact h.key i _ _ (zI hv) (zI hl)
structure DInv (a b:Aut) (L:List ((Int×Int)×List Sy)):Prop where
 nd:(L.map (·.1)).Nodup
 rng:∀e∈L,inD a e.1.1/\inD b e.1.2
def DInv.len{a b:Aut}{L:List ((Int×Int)×List Sy)}(h:DInv a b L):L.length<=(a.fin.length+1) * (b.fin.length+1):=by
 have e:L.length=(L.map (·.1)).length:=by rw[List.length_map]
 rw[<-Jo,e];refine Yd _ _ h.nd λx hx=>?_;obtain⟨e,he,rfl⟩:=zO.1 hx;exact Kv (h.rng e he).1 (h.rng e he).2
def DInv.add{a b:Aut}{L:List ((Int×Int)×List Sy)}(h:DInv a b L){t:Int×Int}{w:List Sy}(ht:inD a t.1/\inD b t.2)(hn:t∉L.map (·.1)):DInv a b (L++[(t,w)]):=by
 refine⟨?_,λe he=>?_⟩
 ·rw[List.map_append,List.nodup_append];refine⟨h.nd,by simp,λx hx y hy e=>?_⟩;simp only[List.map_cons,List.map_nil,zP]at hy;exact hn (by rw[<-hy,<-e];exact hx)
 rcases zV.1 he with he|he
 ·exact h.rng e he
 rw[zP.1 he];exact ht
def DInv.start{a b:Aut}(ha:OkA a)(hb:OkA b):DInv a b [((0,0),[])]:=by have:=ha.fin;have:=hb.fin;exact⟨by simp,λe he=>by rw[zP.1 he];exact⟨.inr ⟨xC _,by simp only;omega⟩,.inr ⟨xC _,by simp only;omega⟩⟩⟩
def u1r{a b:Aut}(ha:Dta a)(hb:Dta b)(ht:b.types=a.types){s:Int×Int}{e:Sy×(Int×Int)}(he:e∈Iy a b s):inD a e.2.1/\inD b e.2.2:=by obtain⟨_,h2⟩:=(Du ha hb ht s).mem e he;rw[h2];exact⟨Xv ha.ok _ _,Xv hb.ok _ _⟩
def adQ(l:List (Int×Int))(t:Int×Int):List (Int×Int):=if t∈l then l else l++[t]
def g2k{l:List (Int×Int)}{t:Int×Int}(h:t∈l):adQ l t=l:=if_pos h
def u24{l:List (Int×Int)}{t:Int×Int}(h:t∉l):adQ l t=l++[t]:=if_neg h
def v2r{l:List (Int×Int)}{t s:Int×Int}:s∈adQ l t↔s∈l\/s=t:=by
 unfold adQ;by_cases h:t∈l
 ·rw[if_pos h];exact⟨.inl,λk=>k.elim id λe=>e▸h⟩
 rw[if_neg h,zV,zP]
def q01{s:Int×Int}:∀(ys l:List (Int×Int)),s∈ys.foldl adQ l↔s∈l\/s∈ys
 |[],l=>by simp
 |y::ys,l=>by
  rw[List.foldl_cons,q01 ys,v2r,yB];constructor
  ·rintro((h|h)|h)
   ·exact .inl h
   ·exact .inr (.inl h)
   exact .inr (.inr h)
  rintro(h|h|h)
  ·exact .inl (.inl h)
  ·exact .inl (.inr h)
  exact .inr h
section
open Go Go.Proofs Go.Maps Go.RowKit
attribute [simp] T66 T41
def pqr(s:Int×Int):AV:= .agg [.i s.1,.i s.2]
abbrev LQp (l:List (Int×Int)):AV:= .list (l.map pqr)
def f2w(a b c d:Int):eqA T 9 66 (.agg [.int .i64 a,.int .i64 b]) (.agg [.int .i64 c,.int .i64 d])=some (a==c && b==d):=by simp[eqA,Am,Fz,TI.agg,List.range_succ]
end
section
open Go Go.Proofs Go.Maps Go.RowKit
attribute [local irreducible] Ao toL
end
section
open Go Go.Proofs Go.Maps Go.RowKit
def d2e(l:List (Int×Int)):(Y8 l).length=l.length:=(wP l pLe).length_eq
attribute [local irreducible] Ao toL Y8
end
section
open Go Go.Proofs Go.Maps Go.RowKit
attribute [simp] T43
def q2l(a b:Aut):PC prog 40 [encA a,encA b] (λr=>r= .i (Em a b)):=by
 refine pcB func40 results40 ntmps40 ?_;simp only[Qd];have cA:=Zo a;have cB:=Zo b;simp only[encA]at cA cB |-;obtain⟨R,hR⟩:∃R,Em a b=R:=⟨_,rfl⟩
 rw[hR];unfold Em at hR;repeat(refine s_ ?_;simp)
 refine pcL (cA) ?_;simp;repeat(refine s_ ?_;simp)
 refine Qa rfl (λh=>?_) (λh=>?_)
 ·rw[if_pos (by simpa using h)]at hR;repeat(refine s_ ?_;simp)
  exact hR
 rw[if_neg (by simpa using h)]at hR;repeat(refine s_ ?_;simp)
 refine pcL (cB) ?_;simp;repeat(refine s_ ?_;simp)
 refine Qa rfl (λh2=>?_) (λh2=>?_)
 ·rw[if_pos (by simpa using h2)]at hR;repeat(refine s_ ?_;simp)
  exact hR
 rw[if_neg (by simpa using h2)]at hR;repeat(refine s_ ?_;simp)
 refine Qa rfl (λh3=>?_) (λh3=>?_)
 ·rw[if_pos (by simpa using h3)]at hR;subst hR;repeat(refine s_ ?_;simp)
 rw[if_neg (by simpa using h3)]at hR;subst hR;repeat(refine s_ ?_;simp)
attribute [local irreducible] Em Dq
def u0x{α:Type}{p:α->Bool}{l:List α}{j:Nat}(h:j<l.length)(h1:(l.take j).all p=true):(l.take (j+1)).all p=p l[j]:=by rw[List.take_succ_eq_append_getElem h,List.all_append,h1];simp
def all_false{α:Type}{p:α->Bool}{l:List α}{j:Nat}(h:j<l.length)(h1:p l[j]=false):l.all p=false:=by rw[List.all_eq_false];exact⟨_,List.getElem_mem h,by rw[h1];simp⟩
attribute [local irreducible] w0v
def g02(x:EqC):AV:= .agg [.i x.verdict,LQp x.pairs,LSy x.word]
def g1z(a b:Aut)(x:EqC):Int:=if 2048<x.pairs.length\/4096<x.word.length then 5 else if x.pairs.all (λs=>decide (inS a s.1/\inS b s.2))=false then 6 else w0t a.types x.word
def f1x(n:Nat)(z:Int):(z<0/\¬(0<=z/\z<(n:Int)))\/(¬z<0/\(n:Int)<=z/\¬(0<=z/\z<(n:Int)))\/(¬z<0/\¬(n:Int)<=z/\(0<=z/\z<(n:Int))):=by omega
attribute [local irreducible] Zg
end
section
open Go Go.Proofs
end
end Go.Abs
