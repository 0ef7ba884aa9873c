/- Part Uh of the proof: steps on the way to the last part. No condition. -/
import Derived.Test.YtjmkolhkojgjpaaGreatDoorUg
import Derived.Test.YtjmkolhkojgjpaaGreatDoorUd
import Derived.Test.YtjmkolhkojgjpaaGreatDoorUf
import Derived.Test.YtjmkolhkojgjpaaGreatDoorUe
set_option linter.all false
open Int renaming le_refl->yZ
open List renaming mem_map->zO,mergeSort_perm->wS,all_eq_true->zW,mem_singleton->zP,mem_cons->zZ,mem_append->zV,mem_append_left->yX,mem_append_right->vF,getElem?_eq_some_iff->zB,getElem?_append_left->zF,getElem?_append_right->zH,getElem?_eq_getElem->zI
open Nat renaming mul_le_mul->vY
open Bool renaming not_eq_false->tC
open Prod renaming ext->uo
set_option linter.unusedSimpArgs false
set_option maxRecDepth 100000
open Go.Proofs.Tryz
namespace Go.Abs
section
open Go Go.Proofs Go.Maps Go.RowKit
def u2i(p q:Prd):Lq (Qm p) (Qm q)=q0e (Qy p 0) (Qy q 0):=by
 have h1:decide (((Qy p 0).1:Int)<(Qy q 0).1)=decide ((Qy p 0).1<(Qy q 0).1):=by rw[decide_eq_decide];omega
 have h2:decide (((Qy p 0).1:Int)=(Qy q 0).1)=decide ((Qy p 0).1=(Qy q 0).1):=by rw[decide_eq_decide];omega
 unfold Lq q0e Qm;simp only[h1,h2]
attribute [local irreducible] Q9 W1 Ro Wj v1g P3 Uq Qy
end
section
open Go Go.Proofs Go.Maps Go.RowKit
attribute [local irreducible] Q7 Re
attribute [local irreducible] Ux
end
section
open Go Go.Proofs Go.Maps Go.RowKit
attribute [local irreducible] Q1 Qm k0f Tq Tb Bx Wl
end
section
open Go Go.Proofs Go.Maps Go.RowKit
attribute [local irreducible] Ak Q1 Qm Z6 Ia G6 Rk stepG P6 C6 Bx Wl
end
section
open Go Go.Proofs Go.Maps Go.RowKit
attribute [local irreducible] Ej Lu G4
end
section
open Go Go.Proofs Go.Maps Go.RowKit
attribute [local irreducible] F2 Ns Wl
set_option maxHeartbeats 2000000 in
def v05(a:Aut):PC prog 37 [encA a] (λr=>r= .i (Y8 a)):=by
 refine pcB func37 results37 ntmps37 ?_;simp only[Qe];simp only[encA];repeat(refine s_ ?_;simp)
 refine pcL (Fm a) ?_;simp;repeat(refine s_ ?_;simp)
 refine Qa rfl (λh=>?_) (λh=>?_)
 ·repeat(refine s_ ?_;simp)
  rw[Y8,if_pos (by simpa using h)]
 have h0:Wl a=0:=by simpa using h
 have z1:=(Y4 a).1 h0;rw[Y8,if_neg (λk=>k h0)];repeat(refine s_ ?_;simp)
 refine pcL (j0w a z1) ?_;simp;cases hs:Ns a with
 |false=>
  repeat(refine s_ ?_;simp[hs])
  refine Qx rfl rfl ?_;simp;refine Qq rfl ?_;repeat ((refine s_ ?_;simp))
 |true=>
  repeat(refine s_ ?_;simp[hs])
  refine pcL (k1m a z1) ?_;simp;cases hf:F2 a with
  |false=>
   repeat(refine s_ ?_;simp[hf])
   refine Qq rfl ?_;repeat ((refine s_ ?_;simp))
  |true=>
   repeat(refine s_ ?_;simp[hf])
   refine Qq rfl ?_;repeat(refine s_ ?_;simp)
attribute [local irreducible] Tj
attribute [local irreducible] toL
end
section
open Go Go.Proofs Go.Maps Go.RowKit
attribute [local irreducible] Qm Q7
end
section
open Go Go.Proofs Go.Maps Go.RowKit
abbrev PQ:=(Int×Int)×List Sy
def d00{good:Int×Int->Bool}{succ:Int×Int->List (Sy×(Int×Int))}{f n:Nat}{L:List PQ}(h:L[n]? =none):Xf good succ f n L=(none,L):=by
 cases f with
 |zero=>rw[Xf]
 |succ f=>rw[Xf,h]
def y1c{good:Int×Int->Bool}{succ:Int×Int->List (Sy×(Int×Int))}{f n:Nat}{L:List PQ}{s:Int×Int}{w:List Sy}(h:L[n]?=some (s,w)):Xf good succ (f+1) n L=if good s=true then(some w,L)else Xf good succ f (n+1) (Ez L w (succ s)):=by rw[Xf,h]
def j0y(L:List PQ)(w:List Sy):Ez L w ([]:List (Sy×(Int×Int)))=L:=rfl
attribute [local irreducible] Ah toL Xf Ez Bm Yg Fc
end
section
open Go Go.Proofs Go.Maps Go.RowKit
instance inS_dec (a:Aut) (s:Int):Decidable (inS a s):=by unfold inS;exact inferInstance
attribute [local irreducible] Y8 Fc
abbrev Yc (l:List Nat):List Int:=l.map λx:Nat=>(x:Int)
attribute [local irreducible] eqS
end
def B9{a b:Aut}(ha:Dfa a)(hb:OkA b)(ht:b.types=a.types){w:List Sy}(hw:∀z∈w,Wk a z)(h1:Rc b w=true)(h2:Rc a w=false):∃v:List Sy,v.length+1<=b.fin.length * (a.fin.length+1)/\(∀z∈v,Wk a z)/\Rc b v=true/\Rc a v=false:=by
 have hz:inS b 0:=⟨yZ _,by have:=hb.fin;omega⟩
 have z1:∀v,Rc b v=true↔v1t b 0 v:=λv=>by unfold Rc;rw[q0f];simp
 have hst:∀l∈(Ee a.fin.length).map (λi=>[i]),∀x,Wk a x->Q1 a l x=[]\/Q1 a l x∈(Ee a.fin.length).map (λi=>[i]):=λl hl x hx=>by obtain⟨i,hi,rfl⟩:=zO.1 hl;obtain⟨h3,h4⟩:=ha.next (Wy.1 hi) hx;rw[h4];exact .inr (zO.2 ⟨_,Wy.2 h3,rfl⟩)
 obtain⟨k,_,hk⟩:=j2d (a:=a) (b:=b) (s:=(0,[0])) w.length ⟨w,rfl,hw,(z1 w).1 h1,h2⟩;have z6:=u1h hst (b:=b) (s:=(0,[0])) ⟨hz,.inr (zO.2 ⟨0,Wy.2 ha.zero,rfl⟩)⟩ hk;obtain⟨⟨v,hv,z7,v1,v2⟩,_⟩:=hk;have hl:((Ee a.fin.length).map λi=>[i]).length=a.fin.length:=by simp[Ee]
 rw[hl]at z6;exact⟨v,by rw[hv];exact z6,z7,(z1 v).2 v1,v2⟩
def y28{a b:Aut}(ha:Dfa a)(hb:Dfa b)(ht:b.types=a.types)(z1:a.fin.length<=8)(z6:b.fin.length<=8){w:List Sy}(h:FirstP (Wk a) (wnd neB a b) w):w.length<=4096:=by
 have hh:=h.hit;unfold wnd neB at hh;cases h1:Rc a w with
 |true=>
  cases h2:Rc b w with
  |true=>rw[h1,h2]at hh;cases hh
  |false=>obtain⟨v,v1,v2,v3,v4⟩:=B9 hb ha.ok ht.symm (λz hz=>(Wz ht).2 (h.okw z hz)) h1 h2;have:=c0m (h.least v (λz hz=>(Wz ht).1 (v2 z hz)) (by unfold wnd neB;rw[v3,v4];rfl));have:=vY z1 (show b.fin.length+1<=9 by omega);omega
 |false=>
  cases h2:Rc b w with
  |false=>rw[h1,h2]at hh;cases hh
  |true=>obtain⟨v,v1,v2,v3,v4⟩:=B9 ha hb.ok ht h.okw h2 h1;have:=c0m (h.least v v2 (by unfold wnd neB;rw[v3,v4];rfl));have:=vY z6 (show a.fin.length+1<=9 by omega);omega
structure EqC where
 verdict:Int
 pairs:List (Int×Int)
 word:List Sy
def k28:EqC:=⟨0,[],[]⟩
def E6(a b:Aut):Int:=if Wl a≠0 then Wl a else if Wl b≠0 then Wl b else if a.types≠b.types then 15 else 0
def Tm(a b:Aut):Int:=if E6 a b≠0 then E6 a b else if Y8 a≠0\/Y8 b≠0 then 3 else 0
def Ld(a b:Aut):EqC×Int:=if Tm a b≠0 then(k28,Tm a b)else match (Lo a b neB).1 with
 |some w=>(⟨2,[],w⟩,0)
 |none=>if 2048<(Yr a b).length then(k28,5)else(⟨1,Y2 (Yr a b),[]⟩,0)
instance (a:Aut) (s:Int):Decidable (inS a s):=inferInstanceAs (Decidable (0<=s/\s<(a.fin.length:Int)))
def U9(a b:Aut)(x:EqC):Int:=if x.verdict≠1/\x.verdict≠2 then 1 else if(x.verdict=1/\0<x.word.length)\/(x.verdict=2/\0<x.pairs.length)then 3
 else if 2048<x.pairs.length\/4096<x.word.length then 5 else if x.pairs.all (λs=>decide (inS a s.1/\inS b s.2))=false then 6 else Lm a.types x.word
def Kt(a b:Aut)(x:EqC):Int:=if Tm a b≠0 then Tm a b else if U9 a b x≠0 then U9 a b x else if(if x.verdict=1 then Lr a b x.pairs else Rc a x.word != Rc b x.word)=true then 0 else 18
def Uz(a b:Aut):Int:=if E6 a b≠0 then E6 a b else if(Ej a).1≠0 then(Ej a).1 else(Ej b).1
def c14(a b:Aut):(List Sy×Bool)×Int:=if Uz a b≠0 then(([],false),Uz a b)else match (Lo (Ej a).2 (Ej b).2 v2l).1 with
 |some w=>((w,false),0)
 |none=>(([],true),0)
def c1u(a b:Aut):(List Sy×Bool)×Int:=if Uz a b≠0 then(([],false),Uz a b)else match (Lo (Ej a).2 (Ej b).2 neB).1 with
 |some w=>((w,true),0)
 |none=>(([],false),0)
def Uo{a b:Aut}:E6 a b=0↔OkA a/\OkA b/\b.types=a.types:=by
 unfold E6;by_cases h1:Wl a≠0
 ·rw[if_pos h1];exact⟨λh=>absurd h h1,λh=>absurd ((Y4 a).2 h.1) h1⟩
 rw[if_neg h1];by_cases h2:Wl b≠0
 ·rw[if_pos h2];exact⟨λh=>absurd h h2,λh=>absurd ((Y4 b).2 h.2.1) h2⟩
 rw[if_neg h2];by_cases h3:a.types≠b.types
 ·rw[if_pos h3];exact⟨λh=>(by cases h),λh=>absurd h.2.2.symm h3⟩
 rw[if_neg h3];exact⟨λ_=>⟨(Y4 a).1 (Decidable.not_not.1 h1),(Y4 b).1 (Decidable.not_not.1 h2),(Decidable.not_not.1 h3).symm⟩,λ_=>rfl⟩
def Yl{a b:Aut}:Tm a b=0↔Dfa a/\Dfa b/\b.types=a.types:=by
 unfold Tm;by_cases h1:E6 a b≠0
 ·rw[if_pos h1];exact⟨λh=>absurd h h1,λh=>absurd (Uo.2 ⟨h.1.ok,h.2.1.ok,h.2.2⟩) h1⟩
 rw[if_neg h1];have hb:=Uo.1 (Decidable.not_not.1 h1);by_cases h2:Y8 a≠0\/Y8 b≠0
 ·rw[if_pos h2];exact⟨λh=>(by cases h),λh=>h2.elim (λk=>absurd ((Ye a).2 h.1) k) (λk=>absurd ((Ye b).2 h.2.1) k)⟩
 rw[if_neg h2];exact⟨λ_=>⟨(Ye a).1 (Decidable.not_not.1 λk=>h2 (.inl k)),(Ye b).1 (Decidable.not_not.1 λk=>h2 (.inr k)),hb.2.2⟩,λ_=>rfl⟩
def v1l{a b:Aut}(ha:Dta a)(hb:Dta b)(ht:b.types=a.types){wn:Bool->Bool->Bool}{w:List Sy}(h:(Lo a b wn).1=some w):FirstP (Wk a) (wnd wn a b) w:=by
 rcases Yo ha hb ht wn with⟨v,L,h1,h2⟩|⟨L,h1,_⟩
 ·rw[h1]at h;obtain rfl:=Option.some.inj h;exact h2
 rw[h1]at h;cases h
def d1a{a b:Aut}(ha:Dfa a)(hb:Dfa b)(ht:b.types=a.types)(hn:(Lo a b neB).1=none):(Yr a b).length<=a.fin.length * b.fin.length/\∀s∈Yr a b,inS a s.1/\inS b s.2:=by
 obtain⟨h1,_,h3⟩:=Jp ⟨ha.ok,ha.det⟩ ⟨hb.ok,hb.det⟩ ht hn;have z1:∀s∈Yr a b,inS a s.1/\inS b s.2:=λs hs=>by
  obtain⟨v,hv,e⟩:=(h3 s).1 hs;rw[Ih]at e;rw[<-e];have st:∀ {c:Aut},Dfa c->∀(w:List Sy) (s:Int),inS c s->(∀x∈w,Wk c x)->inS c (stF c s w):=λ{c} hc w=>by
   induction w with
   |nil=>intro s hs _;exact hs
   |cons x w ih=>intro s hs hw;exact ih _ (hc.next hs (hw x (by simp))).1 λy hy=>hw y (by simp[hy])
  exact⟨st ha v 0 ha.zero hv,st hb v 0 hb.zero λx hx=>(Wz ht).2 (hv x hx)⟩
 refine⟨?_,z1⟩;rw[<-Pm];exact Yu _ _ h1 λs hs=>D0 (z1 s hs).1 (z1 s hs).2
def w0e{a b:Aut}(hf:Tm a b=0)(z1:a.fin.length<=8)(z6:b.fin.length<=8):(Ld a b).2=0/\Kt a b (Ld a b).1=0/\(((Ld a b).1.verdict=1/\∀w,(∀x∈w,Wk a x)->Rc a w=Rc b w)\/((Ld a b).1.verdict=2/\∃w,(∀x∈w,Wk a x)/\Rc a w≠Rc b w)):=by
 obtain⟨ha,hb,ht⟩:=Yl.1 hf;have da:Dta a:=⟨ha.ok,ha.det⟩
 have db:Dta b:=⟨hb.ok,hb.det⟩
 unfold Ld;rw[if_neg (λk=>k hf)];cases hs:(Lo a b neB).1 with
 |some w=>
  have hw:=v1l da db ht hs;have hl:=y28 ha hb ht z1 z6 hw;have z7:(Rc a w != Rc b w)=true:=hw.hit;refine⟨rfl,?_,.inr ⟨rfl,w,hw.okw,by simpa using z7⟩⟩;have hp:U9 a b ⟨2,[],w⟩=0:=by unfold U9;rw[if_neg (by simp),if_neg (by simp),if_neg (by simp;omega),if_neg (by simp)];exact(Ad w).2 λx hx=>(I3 _ _).2 (hw.okw x hx)
  unfold Kt;rw[if_neg (λk=>k hf),if_neg (λk=>k hp)];simp only;rw[if_neg (by decide:¬(2:Int)=1),if_pos z7]
 |none=>
  obtain⟨hl,z8⟩:=d1a ha hb ht hs;have:=vY z1 z6;simp only;rw[if_neg (by omega)];refine⟨rfl,?_,.inl ⟨rfl,Xk ha hb ht (N0 ha hb ht hs)⟩⟩;have za:(Y2 (Yr a b)).length=(Yr a b).length:=(wS _ _).length_eq;have hp:U9 a b ⟨1,Y2 (Yr a b),[]⟩=0:=by
   unfold U9;rw[if_neg (by simp),if_neg (by simp),if_neg (by simp;omega),if_neg]
   ·rfl
   simp only[tC];rw[zW];intro s hm;exact decide_eq_true (z8 s (Ty.1 hm))
  unfold Kt;rw[if_neg (λk=>k hf),if_neg (λk=>k hp)];simp only;rw[if_pos trivial,if_pos (N0 ha hb ht hs)]
section
section
variable {a b:Aut}
def Ms(hb:E6 a b=0):Uz a b=0↔(Ej a).1=0/\(Ej b).1=0:=by
 unfold Uz;rw[if_neg (λk=>k hb)];by_cases h:(Ej a).1≠0
 ·rw[if_pos h];exact⟨λk=>absurd k h,λk=>absurd k.1 h⟩
 rw[if_neg h];exact⟨λk=>⟨Decidable.not_not.1 h,k⟩,λk=>k.2⟩
def y0t{a:Aut}(h:(Ej a).1=0):Ej a=(0,(Ej a).2):=uo h rfl
end
end
def d1g{a b m n:Aut}(ha:OkA a)(hb:OkA b)(ht:b.types=a.types)(hm:Dz a=(0,m))(hn:Dz b=(0,n)):m=n↔∀w,(∀x∈w,Wk a x)->Rc a w=Rc b w:=by refine⟨λe w hw=>?_,λh=>x0y ha hb ht h hm hn⟩;have h1:=(q0g ha hm).2.2.2.1 w hw;have h2:=(q0g hb hn).2.2.2.1 w λx hx=>(Wz ht).2 (hw x hx);rw[<-h1,<-h2,e]
def g0e{a b:Aut}(w:List Sy):U9 a b ⟨2,[],w⟩=0↔w.length<=4096/\Lm a.types w=0:=by
 unfold U9;rw[if_neg (by simp),if_neg (by simp)];by_cases h:4096<w.length
 ·rw[if_pos (.inr h)];exact⟨λk=>(by cases k),λk=>absurd k.1 (by omega)⟩
 rw[if_neg (by simp;omega),if_neg (by simp)];exact⟨λk=>⟨by omega,k⟩,λk=>k.2⟩
def g1e{a b:Aut}(hf:Tm a b=0)(w:List Sy):Kt a b ⟨2,[],w⟩=if U9 a b ⟨2,[],w⟩≠0 then U9 a b ⟨2,[],w⟩else if Rc a w=Rc b w then 18 else 0:=by
 unfold Kt;rw[if_neg (λk=>k hf)];by_cases h:U9 a b ⟨2,[],w⟩≠0
 ·rw[if_pos h,if_pos h]
 rw[if_neg h,if_neg h];simp only;rw[if_neg (by decide:¬(2:Int)=1)];by_cases e:Rc a w=Rc b w
 ·rw[if_pos e,e];simp
 rw[if_neg e,if_pos (by simpa using e)]
def M6{a b:Aut}(hf:Tm a b=0){l:List (Int×Int)}(hl:l.length<=2048)(z1:∀s∈l,inS a s.1/\inS b s.2):Kt a b ⟨1,l,[]⟩=if Lr a b l=true then 0 else 18:=by
 have hp:U9 a b ⟨1,l,[]⟩=0:=by
  unfold U9;rw[if_neg (by simp),if_neg (by simp),if_neg (by simp;omega),if_neg]
  ·rfl
  simp only[tC];rw[zW];exact λs hm=>decide_eq_true (z1 s hm)
 unfold Kt;rw[if_neg (λk=>k hf),if_neg (λk=>k hp)];simp only;rw[if_pos trivial]
def g0j{a b:Aut}(hf:Tm a b=0)(z1:a.fin.length<=8)(z6:b.fin.length<=8):
  (Ld a b).2=0/\Kt a b (Ld a b).1=0/\(∀m n,Dz a=(0,m)->Dz b=(0,n)->(m=n↔(Ld a b).1.verdict=1))/\
  (((Ld a b).1.verdict=1/\(∀w,Kt a b ⟨2,[],w⟩≠0)/\∀w,(∀x∈w,Wk a x)->Rc a w=Rc b w)\/((Ld a b).1.verdict=2/\∀l:List (Int×Int),l.length<=2048->(∀s∈l,inS a s.1/\inS b s.2)->Kt a b ⟨1,l,[]⟩=18)):=by
 obtain⟨ha,hb,ht⟩:=Yl.1 hf;obtain⟨h1,h2,h3⟩:=w0e hf z1 z6;refine⟨h1,h2,λm n hm hn=>?_,?_⟩
 ·rw[d1g ha.ok hb.ok ht hm hn];rcases h3 with⟨h3,h4⟩|⟨h3,w,h4,h5⟩
  ·exact⟨λ_=>h3,λ_=>h4⟩
  exact⟨λh=>absurd (h w h4) h5,λh=>by rw[h3]at h;cases h⟩
 rcases h3 with⟨h3,h4⟩|⟨h3,w,h4,h5⟩
 ·refine .inl ⟨h3,λw=>?_,h4⟩;rw[g1e hf];by_cases h:U9 a b ⟨2,[],w⟩≠0
  ·rw[if_pos h];exact h
  rw[if_neg h];have hw:=(Ad w).1 ((g0e w).1 (Decidable.not_not.1 h)).2;rw[if_pos (h4 w λx hx=>(I3 _ _).1 (hw x hx))];decide
 refine .inr ⟨h3,λl hl z7=>?_⟩;rw[M6 hf hl z7,if_neg];exact λk=>h5 (Xk ha hb ht k w h4)
def g28:Prd:=[[⟨-1099511627776,1099511627776⟩]]
def f2a:Prd:=[[⟨-1099511627776,4⟩]]
def q2k:Prd:=[[⟨5,1099511627776⟩]]
def exQ:Aut:=⟨1,[false,true],[⟨0,1,g28⟩,⟨1,0,g28⟩]⟩
def exR:Aut:=⟨1,[false,true],[⟨0,1,f2a⟩,⟨0,0,q2k⟩,⟨1,0,f2a⟩,⟨1,1,q2k⟩]⟩
def f2r:Y8 exQ=0:=by decide+kernel
def g2r:Y8 exR=0:=by decide+kernel
def Fu:Dfa exQ:=(Ye _).1 f2r
def x1o:Dfa exR:=(Ye _).1 g2r
def u24:Wl exQ=0:=by decide+kernel
def u2t:Wl exR=0:=by decide+kernel
def c0w:Tm exQ exR=0:=Yl.2 ⟨Fu,x1o,rfl⟩
def Cl:Tm exQ exQ=0:=Yl.2 ⟨Fu,Fu,rfl⟩
def c0d:(Fc exQ exR 0 0).1=some [⟨0,5⟩]:=by kernel_rfl
def d1r:(Fc exQ exQ 0 0).1=none:=by kernel_rfl
def u20:(v2i exQ exR v2l).1=some [⟨0,-1099511627776⟩,⟨0,5⟩]:=by kernel_rfl
def w20:z0p exQ exQ=[(0,0),(1,1)]:=by kernel_rfl
def q2h:Lr exQ exQ [(0,0)]=false:=by kernel_rfl
def xqC:List Prd:=[g28]
def xrC:List Prd:=[f2a,q2k]
def xqQ:List (List Int):=[[0],[1]]
def k1o:(Xs exQ.types (onA exQ)).1=0/\(Xs exQ.types (onA exQ)).2=xqC:=by decide+kernel
def k1z:(Xs exR.types (onA exR)).1=0/\(Xs exR.types (onA exR)).2=xrC:=by decide+kernel
def k10:Jx exQ xqC=some xqQ:=by decide+kernel
def u1o:Jx exR xrC=some xqQ:=by decide+kernel
def j12:Ia exQ xqC xqQ=exQ:=by kernel_rfl
def v1r:Ia exR xrC xqQ=exR:=by kernel_rfl
def y2k:C6 exQ=false:=by decide+kernel
def w2u:C6 exR=false:=by decide+kernel
def d1x{a d:Aut}{C:List Prd}{Q:List (List Int)}(hk:Wl a=0)(hm:(Xs a.types (onA a)).1=0/\(Xs a.types (onA a)).2=C)(hs:Jx a C=some Q)(hd:Ia a C Q=d)(hb:C6 d=false):Ej a=(0,d):=by
 have z6:Tb a.types (onA a)=(0,C):=by rw[<-q1v];exact uo hm.1 hm.2
 have z1:Ak a=(0,C,Q):=by
  rw[Ak,if_neg (λk=>k hk),z6];rw[if_neg (by simp)];split
  ·rename_i h;have h2:Jx a C=none:=h;rw[hs]at h2;cases h2
  rename_i R h;have h2:Jx a C=some R:=h;rw[hs]at h2;rw[<-Option.some.inj h2]
 rw[Ej,z1,if_neg (by simp)];show Z6 (Ia a C Q)=_;rw[hd,y0m,hb];rfl
def Xu:Ej exQ=(0,exQ):=d1x u24 k1o k10 j12 y2k
def Vl:Ej exR=(0,exR):=d1x u2t k1z u1o v1r w2u
def z2b:E6 exQ exR=0:=Uo.2 ⟨Fu.ok,x1o.ok,rfl⟩
def x1v:Uz exQ exR=0:=(Ms z2b).2 ⟨by rw[Xu],by rw[Vl]⟩
def q2b:Ld exQ exR=(⟨2,[],[⟨0,5⟩]⟩,0):=by rw[Ld,if_neg (λk=>k c0w),<-D8 Fu x1o rfl,c0d]
def y13:(Lo exQ exQ neB).1=none:=by rw[<-D8 Fu Fu rfl,d1r]
def f0b:Y2 (Yr exQ exQ)=[(0,0),(1,1)]:=by obtain⟨h1,h2,h3⟩:=Jp ⟨Fu.ok,Fu.det⟩ ⟨Fu.ok,Fu.det⟩ rfl y13;rw[h2,w20];exact D9 (Hj (by decide)) (by simp[pLt]) λs=>Ty
def q1p:Ld exQ exQ=(⟨1,[(0,0),(1,1)],[]⟩,0):=by
 have hl:(Yr exQ exQ).length=2:=by rw[<-(wS (Yr exQ exQ) pLe).length_eq];show(Y2 (Yr exQ exQ)).length=2;rw[f0b];rfl
 rw[Ld,if_neg (λk=>k Cl),y13];simp only;rw[if_neg (by omega),f0b]
def k27:c1u exQ exR=(([⟨0,5⟩],true),0):=by rw[c1u,if_neg (λk=>k x1v),Xu,Vl,<-D8 Fu x1o rfl,c0d]
def q20:c14 exQ exR=(([⟨0,-1099511627776⟩,⟨0,5⟩],false),0):=by rw[c14,if_neg (λk=>k x1v)];have:=g0p Fu.ok x1o.ok rfl Xu Vl v2l;rw[Xu,Vl,<-this,u20]
def y2n:Kt exQ exR ⟨2,[],[⟨0,5⟩]⟩=0:=by have:=(w0e c0w (by decide) (by decide)).2.1;rw[q2b]at this;exact this
def q2l:Kt exQ exQ ⟨1,[(0,0),(1,1)],[]⟩=0:=by have:=(w0e Cl (by decide) (by decide)).2.1;rw[q1p]at this;exact this
def z2p:Kt exQ exQ ⟨1,[(0,0)],[]⟩=18:=by rw[M6 Cl (by decide) (λs hs=>by rw[zP]at hs;subst hs;decide),q2h];rfl
def g07:List Iv->Int->Option Int
 |[],_=>none
 |x::l,n=>if n<=x.hi then some (max x.lo n)else g07 l n
def y0g:List Iv->Int->Int
 |[],n=>n
 |x::l,n=>y0g l (if x.lo<=n/\n<=x.hi then x.hi+1 else n)
def d0j:List (List Iv)->Int->Option Int
 |[],n=>some n
 |l::I,n=>match g07 l n with|some m=>d0j I m|none=>none
def c0a:List (List Iv)->Int->Int
 |[],n=>n
 |l::O,n=>c0a O (y0g l n)
def x08:∀(l:List Iv) (n:Int),Sep l->match g07 l n with|some m=>M l m/\n<=m/\∀k,M l k->n<=k->m<=k|none=>∀k,M l k->k<n
 |[],n,_=>λk h=>absurd h Nf
 |x::l,n,h=>by
  have hx:=h.1 x (by simp);have sx:=q1j h;rw[g07];by_cases h1:n<=x.hi
  ·rw[if_pos h1];refine⟨Ek.2 (.inl (by omega)),by omega,λk hk hn=>?_⟩;rcases Ek.1 hk with k1|k1
   ·omega
   have:=sx k k1;omega
  rw[if_neg h1];have ih:=x08 l n (Cr h);cases hc:g07 l n with
  |some m=>
   rw[hc]at ih;obtain⟨i1,i2,i3⟩:=ih;refine⟨Ek.2 (.inr i1),i2,λk hk hn=>?_⟩;rcases Ek.1 hk with k1|k1
   ·omega
   exact i3 k k1 hn
  |none=>
   rw[hc]at ih;intro k hk;rcases Ek.1 hk with k1|k1
   ·omega
   exact ih k k1
def Cv:∀(l:List Iv) (n:Int),n<=y0g l n/\(∀k,n<=k->¬M l k->y0g l n<=k)/\(y0g l n=n->¬M l n)
 |[],n=>⟨yZ _,λk h _=>h,λ_=>Nf⟩
 |x::l,n=>by
  rw[y0g];by_cases h:x.lo<=n/\n<=x.hi
  ·rw[if_pos h];obtain⟨i1,i2,i3⟩:=Cv l (x.hi+1);refine⟨by omega,λk hk hn=>i2 k ?_ (λhm=>hn (Ek.2 (.inr hm))),λe=>by omega⟩;have:¬(x.lo<=k/\k<=x.hi):=λhm=>hn (Ek.2 (.inl hm));omega
  rw[if_neg h];obtain⟨i1,i2,i3⟩:=Cv l n;exact⟨i1,λk hk hn=>i2 k hk λhm=>hn (Ek.2 (.inr hm)),λe hm=>(Ek.1 hm).elim h (i3 e)⟩
def x0q:∀(I:List (List Iv)) (n:Int),(∀l∈I,Sep l)->match d0j I n with|some m=>n<=m/\(∀k,n<=k->(∀l∈I,M l k)->m<=k)/\(m=n->∀l∈I,M l n)|none=>∀k,n<=k->¬ ∀l∈I,M l k
 |[],n,_=>⟨yZ _,λk h _=>h,λ_ l h=>by cases h⟩
 |l::I,n,h=>by
  have h1:=x08 l n (h l (by simp));rw[d0j];cases hc:g07 l n with
  |none=>rw[hc]at h1;intro k hk hm;have:=h1 k (hm l (by simp));omega
  |some m=>
   rw[hc]at h1;obtain⟨a1,a2,a3⟩:=h1;have ih:=x0q I m λl hl=>h l (by simp[hl]);simp only;cases hd:d0j I m with
   |none=>rw[hd]at ih;intro k hk hm;exact ih k (a3 k (hm l (by simp)) hk) λj hj=>hm j (by simp[hj])
   |some m'=>
    rw[hd]at ih;obtain⟨b1,b2,b3⟩:=ih;refine⟨by omega,λk hk hm=>b2 k (a3 k (hm l (by simp)) hk) λj hj=>hm j (by simp[hj]),λe j hj=>?_⟩;have e1:m=n:=by omega
    rcases zZ.1 hj with rfl|hj
    ·rw[<-e1];exact a1
    rw[<-e1];exact b3 (by omega) j hj
def y00:∀(O:List (List Iv)) (n:Int),n<=c0a O n/\(∀k,n<=k->(∀l∈O,¬M l k)->c0a O n<=k)/\(c0a O n=n->∀l∈O,¬M l n)
 |[],n=>⟨yZ _,λk h _=>h,λ_ l h=>by cases h⟩
 |l::O,n=>by
  rw[c0a];obtain⟨h1,h2,h3⟩:=Cv l n;obtain⟨i1,i2,i3⟩:=y00 O (y0g l n);refine⟨by omega,λk hk hm=>i2 k (h2 k hk (hm l (by simp))) λj hj=>hm j (by simp[hj]),λe j hj=>?_⟩;have e1:y0g l n=n:=by omega
  rcases zZ.1 hj with rfl|hj
  ·exact h3 e1
  have:=i3 (by rw[e,e1]) j hj;rw[e1]at this;exact this
def d1t(I O:List (List Iv))(n:Int):Option Int:=match d0j I n with|some m=>some (c0a O m)|none=>none
def Kd(I O:List (List Iv))(k:Int):Prop:=(∀l∈I,M l k)/\∀l∈O,¬M l k
def k1p(I O:List (List Iv))(n:Int)(h:∀l∈I,Sep l):match d1t I O n with|some m=>n<=m/\(∀k,n<=k->Kd I O k->m<=k)/\(m=n->Kd I O n)|none=>∀k,n<=k->¬Kd I O k:=by
 have h1:=x0q I n h;unfold d1t;cases hc:d0j I n with
 |none=>rw[hc]at h1;exact λk hk hg=>h1 k hk hg.1
 |some m=>
  rw[hc]at h1;obtain⟨a1,a2,a3⟩:=h1;obtain⟨b1,b2,b3⟩:=y00 O m;refine⟨by omega,λk hk hg=>b2 k (a2 k hk hg.1) hg.2,λe=>?_⟩;have e1:m=n:=by omega
  refine⟨a3 e1,?_⟩;have:=b3 (by omega);rw[e1]at this;exact this
def D3(t:Nat)(ps:List Prd):List (List Iv):=ps.map λp=>p.getD t []
structure FitP (T:Nat) (ins outs:List Prd) (P:Prd):Prop where
 wf:PWf T P
 mem:∀t n,PM P t n↔t<T/\inR n/\(∀p∈ins,PM p t n)/\∀p∈outs,¬PM p t n
def Ch{ins outs:List Prd}{t:Nat}{n:Int}:Kd (D3 t ins) (D3 t outs) n↔(∀p∈ins,PM p t n)/\∀p∈outs,¬PM p t n:=by
 unfold Kd D3;constructor
 ·rintro⟨h1,h2⟩;exact⟨λp hp=>U3.2 (h1 _ (zO.2 ⟨p,hp,rfl⟩)),λp hp hm=>h2 _ (zO.2 ⟨p,hp,rfl⟩) (U3.1 hm)⟩
 rintro⟨h1,h2⟩;refine⟨λl hl=>?_,λl hl hm=>?_⟩
 ·obtain⟨p,hp,rfl⟩:=zO.1 hl;exact U3.1 (h1 p hp)
 obtain⟨p,hp,rfl⟩:=zO.1 hl;exact h2 p hp (U3.2 hm)
def Bc(P:Prd):Option Sy:=if Wj P then none else some (Qm P)
def FitP.some{T:Nat}{ins outs:List Prd}{P:Prd}(h:FitP T ins outs P){t:Nat}{n:Int}(ht:t<T)(hb:∀t',t'<t->∀k,¬PM P t' k)(hn:inR n)(hg:Kd (D3 t ins) (D3 t outs) n)(hl:∀k,inR k->Kd (D3 t ins) (D3 t outs) k->n<=k):Bc P= .some ⟨t,n⟩:=by
 have hm:PM P t n:=(h.mem t n).2 ⟨ht,hn,Ch.1 hg⟩;obtain⟨g1,g2,g3⟩:=Y6 h.wf ⟨t,n,hm⟩;unfold Bc;rw[if_neg (by rw[(Yp h.wf).2 ⟨t,n,hm⟩];simp)]
 congr 1
 rcases g3 ⟨t,n⟩ ⟨by simp,by simpa using ht,hn⟩ (by simpa using hm)with e|e
 ·exact e
 exfalso;have k:=(h.mem _ _).1 g2;rcases e with e|⟨e1,e2⟩
 ·simp only at e;exact hb _ (by have:=g1.1;omega) _ g2
 simp only at e1 e2;have e3:(Qm P).ty.toNat=t:=by omega
 rw[e3]at k;have:=hl _ k.2.1 (Ch.2 k.2.2);omega
def FitP.none{T:Nat}{ins outs:List Prd}{P:Prd}(h:FitP T ins outs P)(hb:∀t',t'<T->∀k,¬PM P t' k):Bc P= .none:=by unfold Bc;rw[if_pos ((Rp h.wf).2 λt n hm=>hb t (h.wf.lt hm).1 n hm)]
def FitP.no{T:Nat}{ins outs:List Prd}{P:Prd}(h:FitP T ins outs P){t:Nat}(hb:∀k,inR k->¬Kd (D3 t ins) (D3 t outs) k)(k:Int):¬PM P t k:=λhm=>by have:=(h.mem t k).1 hm;exact hb k this.2.1 (Ch.2 this.2.2)
def Xj:Option Mv->List Prd
 |some m=>[m.on]
 |none=>[]
def Sz(a:Aut)(s:Int):Option Mv->List Prd
 |some _=>[]
 |none=>(mvS a s).map (·.on)
def q00{a:Aut}(h:OkA a){s:Int}{o:Option Mv}(ho:o∈Wo a s):FitP a.types.toNat (Xj o) (Sz a s o) (q0r a s o):=by
 have hw:=Vp h ho;refine⟨hw,λt n=>?_⟩;cases o with
 |some m=>
  constructor
  ·intro hm;exact⟨(hw.lt hm).1,(hw.lt hm).2,λp hp=>by rw[zP.1 hp];exact hm,λp hp=>by cases hp⟩
  rintro⟨_,_,h1,_⟩;exact h1 m.on (zP.2 rfl)
 |none=>
  unfold q0r Sz Xj;rw[He (Sp (K4 h s)),K3 (K4 h s)];constructor
  ·rintro⟨⟨h1,h2⟩,h3⟩;exact⟨h1,h2,λp hp=>(by cases hp),λp hp hm=>h3 ⟨p,hp,hm⟩⟩
  rintro⟨h1,h2,_,h3⟩;exact⟨⟨h1,h2⟩,λ⟨p,hp,hm⟩=>h3 p hp hm⟩
def y2d{a b:Aut}(ha:OkA a)(hb:OkA b)(ht:b.types=a.types){s:Int×Int}{o r:Option Mv}(ho:o∈Wo a s.1)(hr:r∈Wo b s.2):FitP a.types.toNat (Xj o++Xj r) (Sz a s.1 o++Sz b s.2 r) (w0m a b s o r):=by
 have f1:=q00 ha ho;have f2:=q00 hb hr;rw[ht]at f2;refine⟨Tc f1.wf f2.wf.1,λt n=>?_⟩;unfold w0m;rw[El f1.wf.1 f2.wf.1,f1.mem,f2.mem];constructor
 ·rintro⟨⟨h1,h2,h3,h4⟩,_,_,h5,h6⟩;exact⟨h1,h2,λp hp=>(zV.1 hp).elim (h3 p) (h5 p),λp hp=>(zV.1 hp).elim (h4 p) (h6 p)⟩
 rintro⟨h1,h2,h3,h4⟩;exact⟨⟨h1,h2,λp hp=>h3 p (yX _ hp),λp hp=>h4 p (yX _ hp)⟩,h1,h2,λp hp=>h3 p (vF _ hp),λp hp=>h4 p (vF _ hp)⟩
def f1v(a b:Aut)(s:Int×Int)(o r:Option Mv):j15 a b s o r=(Bc (w0m a b s o r)).map λx=>(x,(D2 o,D2 r)):=by
 unfold j15 Bc;by_cases h:Wj (w0m a b s o r)=true
 ·rw[if_pos h,if_pos h];rfl
 rw[if_neg h,if_neg h];rfl
def B5(a:Aut)(s:Int):Bool:=(Bc (q0r a s none)).isSome
def Li(a:Aut):Bool:=Ns a && (Ee a.fin.length).all λs=> !B5 a s
def y0d{a:Aut}(h:OkA a)(s:Int):B5 a s=false↔∀x,Wk a x->∃m∈mvS a s,Tj m.on x=true:=by
 have hw:=Vp h (s:=s) (Od.2 (.inl rfl));unfold B5 Bc;constructor
 ·intro hl x hx;have hv:Wj (q0r a s none)=true:=by
   by_cases hv:Wj (q0r a s none)=true
   ·exact hv
   rw[if_neg hv]at hl;cases hl
  have h1:=(Rp hw).1 hv x.ty.toNat x.num;have h2:¬ ∀m∈mvS a s,Tj m.on x=false:=λk=>h1 ((Pc h s hx).2 k);simpa using h2
 intro z1;rw[if_pos]
 ·rfl
 refine(Rp hw).2 λt n hm=>?_;have z6:=hw.lt hm;have hx:Wk a ⟨t,n⟩:=U6.1 ⟨by simp,by simpa using z6.1,z6.2⟩;obtain⟨m,h1,h2⟩:=z1 _ hx;have:=(Pc h s hx).1 (by unfold g06;simpa using hm) m h1;rw[h2]at this;cases this
def d0o{a:Aut}(h:OkA a):Li a=true↔Dfa a:=by
 unfold Li;rw[Bool.and_eq_true,zW];constructor
 ·rintro⟨h1,h2⟩;refine⟨h,(w0q h.wfA).1 h1,λs s0 s1 x hx=>?_⟩;obtain⟨m,k1,k2⟩:=(y0d h s).1 (by have:=h2 s (Wy.2 ⟨s0,s1⟩);simpa using this) x hx;exact⟨m,(Rz.1 k1).1,(Rz.1 k1).2,k2⟩
 intro hd;refine⟨(w0q h.wfA).2 hd.det,λs hs=>?_⟩;have hs:=Wy.1 hs;have:=(y0d h s).2 λx hx=>by obtain⟨m,k1,k2,k3⟩:=hd.full s hs.1 hs.2 x hx;exact⟨m,Rz.2 ⟨k1,k2⟩,k3⟩
 rw[this];rfl
def j07(a b:Aut):Tm a b=if E6 a b≠0 then E6 a b else if Li a=false\/Li b=false then 3 else 0:=by
 unfold Tm;by_cases h1:E6 a b≠0
 ·rw[if_pos h1,if_pos h1]
 rw[if_neg h1,if_neg h1];obtain⟨ha,hb,_⟩:=Uo.1 (Decidable.not_not.1 h1);have e:∀ {c:Aut},OkA c->(Li c=false↔Y8 c≠0):=λ{c} hc=>by rw[<-Bool.not_eq_true,d0o hc,<-Ye]
 by_cases h2:Y8 a≠0\/Y8 b≠0
 ·rw[if_pos h2,if_pos (h2.imp (e ha).2 (e hb).2)]
 rw[if_neg h2,if_neg (λk=>h2 (k.imp (e ha).1 (e hb).1))]
structure Vst where
 s:Int×Int
 fr:Nat
 on:Sy
 fst:Bool
structure VOk (V:List Vst) (L:List ((Int×Int)×List Sy)):Prop where
 len:V.length=L.length
 key:∀(i:Nat) (v:Vst) (e:(Int×Int)×List Sy),V[i]?=some v->L[i]?=some e->v.s=e.1
 way:∀(i:Nat) (v:Vst) (e:(Int×Int)×List Sy),V[i]?=some v->L[i]?=some e->(v.fst=true/\e.2=[])\/(v.fst=false/\v.fr<i/\∃e',L[v.fr]?=some e'/\e.2=e'.2++[v.on])
def VOk.start:VOk [⟨(0,0),0,⟨0,0⟩,true⟩] [((0,0),[])]:=by
 refine⟨rfl,λi v e hv he=>?_,λi v e hv he=>?_⟩
 ·have hi:i=0:=by have:=(zB.1 hv).1;simp at this;omega
  subst hi;simp at hv he;rw[<-hv,<-he]
 have hi:i=0:=by have:=(zB.1 hv).1;simp at this;omega
 subst hi;simp at hv he;rw[<-hv,<-he];exact .inl ⟨rfl,rfl⟩
def VOk.push{V:List Vst}{L:List ((Int×Int)×List Sy)}(h:VOk V L){n:Nat}{e:(Int×Int)×List Sy}(hn:L[n]?=some e)(t:Int×Int)(x:Sy):VOk (V++[⟨t,n,x,false⟩]) (L++[(t,e.2++[x])]):=by
 have z6:=(zB.1 hn).1;have hl:=h.len;refine⟨by simp[hl],λi v d hv hd=>?_,λi v d hv hd=>?_⟩
 ·by_cases hi:i<L.length
  ·rw[zF (by omega)]at hv hd;exact h.key i v d hv hd
  have z1:i=L.length:=by have:=(zB.1 hd).1;simp at this;omega
  rw[zH (by omega),z1]at hv hd;simp[hl]at hv hd;rw[<-hv,<-hd]
 by_cases hi:i<L.length
 ·rw[zF (by omega)]at hv hd;rcases h.way i v d hv hd with k|⟨k1,k2,e',k3,k4⟩
  ·exact .inl k
  exact .inr ⟨k1,k2,e',by rw[zF (by omega)];exact k3,k4⟩
 have z1:i=L.length:=by have:=(zB.1 hd).1;simp at this;omega
 rw[zH (by omega),z1]at hv hd;simp[hl]at hv hd;rw[<-hv,<-hd];exact .inr ⟨rfl,by simp;omega,e,by rw[zF z6];exact hn,rfl⟩
def VOk.pairs{V:List Vst}{L:List ((Int×Int)×List Sy)}(h:VOk V L):V.map (·.s)=L.map (·.1):=by
 refine List.ext_getElem (by simp[h.len]) λi h1 h2=>?_;have hl:i<L.length:=by simpa using h2
 have hv:i<V.length:=by rw[h.len];exact hl
 simp only[List.getElem_map];exact h.key i _ _ (zI hv) (zI hl)
structure DInv (a b:Aut) (L:List ((Int×Int)×List Sy)):Prop where
 nd:(L.map (·.1)).Nodup
 rng:∀e∈L,inD a e.1.1/\inD b e.1.2
def DInv.len{a b:Aut}{L:List ((Int×Int)×List Sy)}(h:DInv a b L):L.length<=(a.fin.length+1) * (b.fin.length+1):=by
 have e:L.length=(L.map (·.1)).length:=by rw[List.length_map]
 rw[<-J9,e];refine Yu _ _ h.nd λx hx=>?_;obtain⟨e,he,rfl⟩:=zO.1 hx;exact Jv (h.rng e he).1 (h.rng e he).2
def DInv.add{a b:Aut}{L:List ((Int×Int)×List Sy)}(h:DInv a b L){t:Int×Int}{w:List Sy}(ht:inD a t.1/\inD b t.2)(hn:t∉L.map (·.1)):DInv a b (L++[(t,w)]):=by
 refine⟨?_,λe he=>?_⟩
 ·rw[List.map_append,List.nodup_append];refine⟨h.nd,by simp,λx hx y hy e=>?_⟩;simp only[List.map_cons,List.map_nil,zP]at hy;exact hn (by rw[<-hy,<-e];exact hx)
 rcases zV.1 he with he|he
 ·exact h.rng e he
 rw[zP.1 he];exact ht
def DInv.start{a b:Aut}(ha:OkA a)(hb:OkA b):DInv a b [((0,0),[])]:=by have:=ha.fin;have:=hb.fin;exact⟨by simp,λe he=>by rw[zP.1 he];exact⟨.inr ⟨yZ _,by simp only;omega⟩,.inr ⟨yZ _,by simp only;omega⟩⟩⟩
def c09{a b:Aut}(ha:Dta a)(hb:Dta b)(ht:b.types=a.types){s:Int×Int}{e:Sy×(Int×Int)}(he:e∈It a b s):inD a e.2.1/\inD b e.2.2:=by obtain⟨_,h2⟩:=(Dr ha hb ht s).mem e he;rw[h2];exact⟨Xn ha.ok _ _,Xn hb.ok _ _⟩
def adQ(l:List (Int×Int))(t:Int×Int):List (Int×Int):=if t∈l then l else l++[t]
def u2k{l:List (Int×Int)}{t:Int×Int}(h:t∈l):adQ l t=l:=if_pos h
def w2g{l:List (Int×Int)}{t:Int×Int}(h:t∉l):adQ l t=l++[t]:=if_neg h
def q24{l:List (Int×Int)}{t s:Int×Int}:s∈adQ l t↔s∈l\/s=t:=by
 unfold adQ;by_cases h:t∈l
 ·rw[if_pos h];exact⟨.inl,λk=>k.elim id λe=>e▸h⟩
 rw[if_neg h,zV,zP]
def B4{s:Int×Int}:∀(ys l:List (Int×Int)),s∈ys.foldl adQ l↔s∈l\/s∈ys
 |[],l=>by simp
 |y::ys,l=>by
  rw[List.foldl_cons,B4 ys,q24,zZ];constructor
  ·rintro((h|h)|h)
   ·exact .inl h
   ·exact .inr (.inl h)
   exact .inr (.inr h)
  rintro(h|h|h)
  ·exact .inl (.inl h)
  ·exact .inl (.inr h)
  exact .inr h
section
open Go Go.Proofs Go.Maps Go.RowKit
attribute [simp] T66 T41
def pqr(s:Int×Int):AV:= .agg [.i s.1,.i s.2]
abbrev LQp (l:List (Int×Int)):AV:= .list (l.map pqr)
def v2p(a b c d:Int):eqA T 9 66 (.agg [.int .i64 a,.int .i64 b]) (.agg [.int .i64 c,.int .i64 d])=some (a==c && b==d):=by simp[eqA,P0,Sn,TI.agg,List.range_succ]
end
section
open Go Go.Proofs Go.Maps Go.RowKit
attribute [local irreducible] Ah toL
end
section
open Go Go.Proofs Go.Maps Go.RowKit
def u27(l:List (Int×Int)):(Y2 l).length=l.length:=(wS l pLe).length_eq
attribute [local irreducible] Ah toL Y2
end
end Go.Abs
