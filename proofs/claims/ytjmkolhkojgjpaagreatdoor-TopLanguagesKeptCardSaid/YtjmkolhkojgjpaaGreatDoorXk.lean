/- Part Xk of the proof: steps on the way to the last part. No condition. -/
import Derived.Test.YtjmkolhkojgjpaaGreatDoorXj
import Derived.Test.YtjmkolhkojgjpaaGreatDoorXi
import Derived.Test.YtjmkolhkojgjpaaGreatDoorXf
import Derived.Test.YtjmkolhkojgjpaaGreatDoorXh
import Derived.Test.YtjmkolhkojgjpaaGreatDoorXe
import Derived.Test.YtjmkolhkojgjpaaGreatDoorXc
import Derived.Test.YtjmkolhkojgjpaaGreatDoorXg
import Derived.Shelf.SlGeneric
import Derived.Ground.SlsfProg
import Derived.Shelf.SlSortCmp.WholeK
import Derived.Test.YtjmkolhkojgjpaaGreatDoorProg
import Derived.Test.YtjmkolhkojgjpaaGreatDoorXd
set_option linter.all false
open List renaming filter_congr->tH,length_map->yO,mem_map->zQ,mem_append->zT,getElem?_append_right->zH,getElem?_append_left->zF,getElem_mem->zL,findIdx?_map->tI,getElem_eq_iff->zY,range->yU,mem_range->xJ,take_of_length_le->zV,getElem?_map->zS,getElem?_eq_some_iff->zB,pairwise_map->xM,pairwise_iff_getElem->yL,take_zero->wd,take_append_drop->xO,flatMap_append->wJ,length_append->zW,map->so,map_append->yR,take_length->yI,getElem?_set_ne->zE,take_succ_eq_append_getElem->zU,mem_of_mem_take->xX,getElem?_eq_getElem->zI,map_map->vT,foldl_append->wQ,nodup_append->vw,mem_singleton->zO,foldl_cons->xU,mem_cons->zX,ext_getElem?->xL,getElem?_set_self->zK,getElem_inj->vW,getElem?_eq_none->yY,map_congr_left->y_,mem_of_getElem?->zJ,getElem?_mapIdx->vK,findIdx?_eq_none_iff->vR,mem_append_left->yV,append_assoc->xQ,getD->yQ,range_succ->wU,flatMap_def->uY,map_cons->xC,map_nil->wD,length_cons->yW,length_filter_le->yX,append_nil->xG,getElem?_zipIdx->tw,mem_iff_getElem?->yH,mem_filter->xH,length_take->xV,any_eq_false->vv
open Nat renaming le_refl->zR,le_trans->yP,zero_le->xI,lt_of_lt_of_le->x_
open Bool renaming eq_iff_iff->wK,not_eq_true->uz
open Option renaming map_eq_some_iff->zP
open Prod renaming ext->vY
set_option maxHeartbeats 16000000
set_option linter.unusedSimpArgs false
set_option maxRecDepth 100000
open Go.Proofs.Tryz
namespace Go.Abs
section
open Go Go.Proofs Go.Maps Go.RowKit
attribute [local irreducible] Dh
attribute [local irreducible] E5
end
section
open Go Go.Proofs Go.Maps Go.RowKit
attribute [local irreducible] w1g
end
section
open Go Go.Proofs Go.Maps Go.RowKit
attribute [local irreducible] Mu w1g E9
end
section
open Go Go.Proofs Go.Maps Go.RowKit
attribute [local irreducible] Mu
end
section
open Go Go.Proofs Go.Maps Go.RowKit
def w15{m:Aut}(hm:OkA m){w:List Sy}(hl:w.length<=4096)(hw:∀z∈w,Wb m z):w0p m w=(E5 m w,0):=by
 have hE:j0g m w=0:=by unfold j0g;rw[(Ud m).2 hm,if_neg (by simp),if_neg (by omega)];exact(Gh w).2 λx hx=>(Am _ _).2 (hw x hx)
 unfold w0p;rw[hE];rfl
attribute [local irreducible] Mu w1g E9 Ij w0p
end
section
open Go Go.Proofs Go.Maps Go.RowKit
section
variable {P:Program} [Env P] {nt k:Nat} {S:AS} {ops:Array Oper} {o:Oper} {R:AS->Prop}
def Fg{wr:Bool}(hw:Qs ops S o=some true)(hd:Wm nt o=true)(ho:o.op= .assign (.const (.map none)))(hR:R (S.putD o.dst .top)):Q9 P nt k wr ops o S R:=
 y1d hw hd (λW0 I0 w I m a z1 z6=>⟨.map none,by simp[execOp,ho,Act.eval],.pure (.top _)⟩) hR
end
def v07(a:Aut)(near:D5):Tq a near 0=Vo a near (Yb a a):=by unfold Tq Vo;refine tH λs _=>?_;unfold Fq Jf;cases lkN near s<;>simp
def k0i(a:Aut)(near:D5)(d:Nat):Tq a near (d+1)=Vo a near (λs=>Vj near (d:Int) (W1 a a s)):=by
 unfold Tq Vo;refine tH λs _=>?_;unfold Fq Jf Vj
 congr 1
 ·cases lkN near s<;>simp
 show(W1 a a s).any _=(W1 a a s).any _
 congr 1
 funext e;cases lkN near e.2 with
 |none=>simp
 |some k=>simp;omega
structure NB (a:Aut) (near:D5):Prop where
 nk:NK near
 inn:∀e∈near,inP a e.1
 bd:∀e∈near,e.2<=1000000
def NB.len{a:Aut}{near:D5}(h:NB a near):near.length<=a.fin.length * a.fin.length:=by
 have e:near.length=(near.map (·.1)).length:=by rw[yO]
 rw[<-Sm,e];refine Ts _ _ h.nk.nd λx hx=>?_;obtain⟨e,he,rfl⟩:=zQ.1 hx;exact H5 (h.inn e he).1 (h.inn e he).2
def NB.add{a:Aut}(ha:OkA a){near:D5}(h:NB a near)(pf:Int×Int->Bool)(d:Nat)(hd:d<=1000000):NB a (near++(Vo a near pf).map λs=>(s,d)):=by
 refine⟨h.nk.round ha pf d (l:=Vo a near pf) (r:=[]) (by simp),λe he=>?_,λe he=>?_⟩;rcases zT.1 he with he|he
 ·exact h.inn e he
 ·obtain⟨s,hs,rfl⟩:=zQ.1 he;exact(Zq hs).1
 rcases zT.1 he with he|he
 ·exact h.bd e he
 obtain⟨s,hs,rfl⟩:=zQ.1 he;exact hd
def d1f(a:Aut):NB a []:=⟨⟨by simp,by simp⟩,by simp,by simp⟩
def u0u(a:Aut)(f d:Nat)(near:D5):Kn a (f+1) d near=if Tq a near d=[]then near else Kn a f (d+1) (near++(Tq a near d).map λs=>(s,d)):=by rw[Kn]
def q1c(a:Aut):Uc a=Kn a (a.fin.length * a.fin.length+1) 1 ((Tq a [] 0).map λs=>(s,0)):=rfl
attribute [local irreducible] Wc Ew Yp W1 Yb lkN Vj Vo Kn Uc
def Bg(a:Aut)(ha:OkA a)(H:List AObj):FC prog 178 [T1 a] H (λr H'=>∃M,r= .mref M/\H.length<=M/\H'[M]?=some (mpN (Uc a))/\NB a (Uc a)/\∀i,i<H.length->H'[i]? =H[i]?):=by
 refine fcB func178 results178 ntmps178 ?_;simp only[Qf];simp only[T1,Wl];have z6:=ha.fin;repeat(refine s_ ?_;simp)
 refine Fg rfl rfl rfl ?_;simp;repeat(refine s_ ?_;simp)
 refine Wx rfl rfl rfl ?_;simp;repeat(refine s_ ?_;simp)
 refine Kh λZ hZ=>?_;have zA:Z[H.length]?=some (.vars (Wl a)):=by rw[hZ,zH (by omega)];simp[Wl]
 have zM:Z[H.length+1]?=some (mpN []):=by rw[hZ,zH (by omega)];simp[mpN,kvN]
 have zN:Z[H.length+2]?=some (.vars [.mref (H.length+1)]):=by rw[hZ,zH (by omega)];simp
 have zC:Z[H.length+3]?=some (.vars [.i a.fin.length]):=by rw[hZ,zH (by omega)];simp
 have zk:∀i,i<H.length->Z[i]? =H[i]? :=λi hi=>by rw[hZ,zF hi]
 clear hZ;refine Qu rfl rfl (z0b a ha Z (H.length+3) (H.length+2) (H.length+1) [] 0 (Yb a a) 227 [.vptr H.length 0] zC zN zM (d1f a).nk (λp q H' hp hq hk=>FC.mono (u1u a ha H' H.length ((hk _ (Qe zA)).trans zA) p q hp hq) (λr K ⟨h1,h2⟩=>⟨h1,λi _=>by rw[h2]⟩))) rfl ?_;rintro _ Y ⟨rfl,yM,yk⟩;simp;have yA:=(yk _ (Qe zA) (by omega)).trans zA;have yN:=(yk _ (Qe zN) (by omega)).trans zN;have yC:=(yk _ (Qe zC) (by omega)).trans zC;have zc:=Qe zC;have z7:∀i,i<H.length->Y[i]? =H[i]? :=λi hi=>(yk i (by omega) (by omega)).trans (zk i hi);clear zA zM zN zC zk yk zc;clear Z;have z8:=q1c a;rw[v07]at z8;have za:=(d1f a).add ha (Yb a a) 0 (by omega);rw[List.nil_append]at yM za;generalize zd:(Vo a [] (Yb a a)).map (λs=>(s,0))=near1 at *
 obtain⟨R,hR⟩:∃R,Uc a=R:=⟨_,rfl⟩
 rw[hR]at z8 |-;have zb:=Qe yC;repeat(refine s_ ?_;simp)
 refine Qj (Qc (sl':=[(1,.vptr H.length 0),(2,.top),(3,.vptr (H.length+2) 0),(4,.vptr (H.length+3) 0),(5,.fn (.func 226) [] [.vptr (H.length+3) 0,.vptr (H.length+2) 0]),(6,.vptr Y.length 0)]) ?_ (by simp));refine Qi (P:=prog) (F:=λ(u:Nat×Nat×D5×Nat×List AObj)=>⟨[(1,.vptr H.length 0),(2,.top),(3,.vptr (H.length+2) 0),(4,.vptr (H.length+3) 0),(5,.fn (.func 226) [] [.vptr (H.length+3) 0,.vptr (H.length+2) 0]),(6,.vptr u.1 0)],u.2.2.2.2⟩)
  (λu=>NB a u.2.2.1/\1<=u.2.1/\u.2.1<=u.2.2.1.length+1/\a.fin.length * a.fin.length+1<=u.2.2.1.length+u.2.2.2.1/\R=Kn a u.2.2.2.1 u.2.1 u.2.2.1/\u.2.2.2.2[H.length]?=some (.vars (Wl a))/\u.2.2.2.2[H.length+1]?=some (mpN u.2.2.1)/\u.2.2.2.2[H.length+2]?=some (.vars [.mref (H.length+1)])/\u.2.2.2.2[H.length+3]?=some (.vars [.i a.fin.length])/\u.2.2.2.2[u.1]?=some (.vars [.i u.2.1])/\∀i,i<H.length->u.2.2.2.2[i]? =H[i]?)
  (λu=>u.2.2.2.1) ?_ (Y.length,1,near1,a.fin.length * a.fin.length+1,Y++[.vars [.i 1]]) ⟨za,zR _,by simp,by simp,z8,Qa yA _,Qa yM _,Qa yN _,Qa yC _,by simp,λi hi=>by rw[zF (by omega)];exact z7 i hi⟩
 clear z8 za zd yA yM yN yC z7 zb;clear Y;rintro⟨D,d,near,F,G⟩ ⟨hb,ze,zf,hF,z1,gA,gM,gN,gC,gD,gk⟩ ih;simp only at hb ze zf hF z1 gA gM gN gC gD gk ih |-;have zi:=hb.len;have zj:a.fin.length * a.fin.length<=65536:=yP (Nat.mul_le_mul z6.2 z6.2) (by decide);obtain⟨e,rfl⟩:∃e,d=e+1:=⟨d - 1,by omega⟩
 obtain⟨F,rfl⟩:∃f,F=f+1:=⟨F - 1,by omega⟩
 rw[u0u,k0i]at z1;repeat(refine s_ ?_;simp[gD])
 refine Qu rfl rfl (z0b a ha G (H.length+3) (H.length+2) (H.length+1) near (e+1) (λs=>Vj near (e:Int) (W1 a a s)) 228 [.vptr H.length 0,.vptr (H.length+2) 0,.vptr D 0] gC gN gM hb.nk (λp q H' hp hq hk=>FC.mono (u12 a ha H' H.length (H.length+2) (H.length+1) D near (e+1) ((hk _ (Qe gA)).trans gA) ((hk _ (Qe gN)).trans gN) ((hk _ (Qe gM)).trans gM) ((hk _ (Qe gD)).trans gD) (by omega) hb.nk p q hp hq) (λr K ⟨h1,h2⟩=>⟨by rw[h1];congr 2;omega,h2⟩))) rfl ?_;rintro _ Y ⟨rfl,yM,yk⟩;simp;have zg:D≠H.length+1:=λe=>by rw[e,gM]at gD;simp[mpN]at gD
 have yD:=(yk _ (Qe gD) zg).trans gD;have yA:=(yk _ (Qe gA) (by omega)).trans gA;have yN:=(yk _ (Qe gN) (by omega)).trans gN;have yC:=(yk _ (Qe gC) (by omega)).trans gC;have zl:=Qe gC;have z7:∀i,i<H.length->Y[i]? =H[i]? :=λi hi=>(yk i (by omega) (by omega)).trans (gk i hi);have zh:=hb.add ha (λs=>Vj near (e:Int) (W1 a a s)) (e+1) (by omega);generalize Vo a near (λs=>Vj near (e:Int) (W1 a a s))=L at *
 refine Qb rfl (λh=>?_) (λh=>?_)
 ·have hL:0<L.length:=by simpa using h
  rw[if_neg (λk=>by rw[k]at hL;simp at hL)]at z1;have hw:IntKind.i64.wrap ((e:Int)+1+1)=e+1+1:=wrap_i64 _ (by omega) (by omega);repeat(refine s_ ?_;simp[yD,hw])
  refine Qc (sl':=[(1,.vptr H.length 0),(2,.top),(3,.vptr (H.length+2) 0),(4,.vptr (H.length+3) 0),(5,.fn (.func 226) [] [.vptr (H.length+3) 0,.vptr (H.length+2) 0]),(6,.vptr Y.length 0)]) ?_ (by simp);have zb:=Qe yC;refine ih (Y.length,e+1+1,near++L.map (λs=>(s,e+1)),F,_) ⟨zh,by simp only;omega,by simp;omega,by simp;omega,z1,?_,?_,?_,?_,?_,λi hi=>?_⟩ (by simp only;omega)
  ·exact Qa yA _
  ·exact Qa yM _
  ·exact Qa yN _
  ·exact Qa yC _
  ·simp
  simp only;rw[zF (by omega)];exact z7 i hi
 have hL:L=[]:=by
  cases L with
  |nil=>rfl
  |cons x l=>simp at h
 subst hL;rw[if_pos rfl]at z1;subst z1;repeat(refine s_ ?_;simp[yN])
 refine⟨by simpa using yM,hb,z7⟩
end
section
open Go Go.Proofs Go.Maps Go.RowKit
attribute [local irreducible] Wc Ew Yp W1 Yb lkN Gu Kx
end
section
open Go Go.Proofs Go.Maps Go.RowKit
def w13(H:List AObj)(q:Nat)(l:List Int)(g:Nat)(cs:List AV)(f:Int->Bool)(hq:H[q]?=some (.arr 3 1 (l.map AV.i)))(n:Nat)(hn:l.length=n)(hl:l.length<=1000000000)(hg:∀z∈l,FC prog g ([]++[.i z]++cs) H (λr H'=>r= .bool (f z)/\H'=H)):
  FC prog 106 [.sl q 1 0 n,.fn (.func g) [] cs] H (λr H'=>r= .i (Nt f l)/\H'=H):=by
 subst hn;refine fcB func106 results106 ntmps106 ?_;simp only[Qf];repeat(refine s_ ?_;simp)
 refine Qj (Qc (sl':=[(0,.sl q 1 0 l.length),(1,.fn (.func g) [] cs),(7,.i l.length),(8,.i 0)]) ?_ (by simp));refine Qi (F:=λ(j:Nat)=>⟨[(0,.sl q 1 0 l.length),(1,.fn (.func g) [] cs),(7,.i l.length),(8,.i j)],H⟩)
  (λj=>j<=l.length/\∀i,∀hi:i<l.length,i<j->f l[i]=false) (λj=>l.length - j) ?_ 0 ⟨by simp,by simp⟩
 rintro j ⟨hj,hI⟩ ih;repeat(refine s_ ?_;simp)
 refine Qb rfl (λz7=>?_) (λz8=>?_)
 ·have z1:j<l.length:=by simpa using z7
  have hw:=wz j (by omega);have za:(l.map AV.i)[j]?=some (.i l[j]):=by simp[z1]
  have zb:∀hh,(l.map AV.i)[j]'hh= .i l[j]:=λhh=>by simp
  repeat(refine s_ ?_;simp[z1,hq,za,zb])
  refine Qu rfl rfl (hg _ (zL z1)) rfl ?_;rintro r H' ⟨rfl,rfl⟩;simp;repeat(refine s_ ?_;simp)
  refine Qb rfl (λh=>?_) (λh=>?_)
  ·repeat(refine s_ ?_;simp)
   rw[X1 z1 h hI]
  repeat(refine s_ ?_;simp[hw])
  refine Qc (sl':=[(0,.sl q 1 0 l.length),(1,.fn (.func g) [] cs),(7,.i l.length),(8,.i (j+1:Nat))]) (ih (j+1) ⟨by omega,λi hi zc=>?_⟩ (by omega)) (by simp);by_cases e:i=j
  ·subst e;exact h
  exact hI i hi (by omega)
 have z6:j=l.length:=by simp at z8;omega
 subst z6;repeat(refine s_ ?_;simp)
 rw[Gn hI]
attribute [local irreducible] Wc Ew Yp W1 Yb lkN Uc Su
def w2u(a:Aut)(i k:Nat):eqS a i k=(lkN (Uc a) ((i:Int),(k:Int))).isNone:=rfl
def M1(a:Aut)(ha:OkA a)(H:List AObj)(N M I:Nat)(i k:Nat)(hN:H[N]?=some (.vars [.mref M]))(hM:H[M]?=some (mpN (Uc a)))(hI:H[I]?=some (.vars [.i i]))(hb:NB a (Uc a))(hi:i<a.fin.length)(hk:k<a.fin.length):
  FC prog 179 [.i k,.vptr N 0,.vptr I 0] H (λr H'=>r= .bool (eqS a i k)/\H'=H):=by
 refine fcB func179 results179 ntmps179 ?_;simp only[Qf];rw[w2u];repeat(refine s_ ?_;simp[hN,hI])
 refine U2 rfl rfl rfl rfl (s:=((i:Int),(k:Int))) rfl (near:=Uc a) hM hb.nk (B9 ha ha ⟨P8 hi,P8 hk⟩) ?_;simp;repeat(refine s_ ?_;simp)
def q2v(E:Nat->Bool)(l:List Nat):Nt (λz:Int=>E z.toNat) (T0 l)=match l.findIdx? E with|some t=>(t:Int)|none=> -1:=by
 have:(T0 l).findIdx? (λz:Int=>E z.toNat)=l.findIdx? E:=by
  unfold T0;rw[tI]
  congr 1
 show(match (T0 l).findIdx? (λz:Int=>E z.toNat)with|some i=>(i:Int)|none=> -1)=_;rw[this]
attribute [local irreducible] eqS
def q0s(a:Aut)(ha:Dfa a):PC prog 117 [T1 a] (λr=>r=LI (T0 (clA a))):=by
 refine pcB func117 results117 ntmps117 ?_;simp only[Qf];simp only[T1,Wl];have zq:=ha.ok.fin;repeat(refine s_ ?_;simp)
 refine Qu rfl rfl (Bg a ha.ok _) rfl ?_;rintro _ Y ⟨M,rfl,zz,zb,zr,hk⟩;simp;have y0:Y[0]?=some (.vars (Wl a)):=hk 0 (by simp);clear hk;have y1:=Qe zb;have y2:=Qe y0;have y0A:∀L,(Y++L)[0]?=some (.vars [.i a.types,.list (a.fin.map .bool),.list (a.mv.map encMv),.list (Yp a)]):=λL=>Qa y0 L;have y0H:∀L hh,(Y++L)[0]'hh= .vars [.i a.types,.list (a.fin.map .bool),.list (a.mv.map encMv),.list (Yp a)]:=λL hh=>(zY hh).2 (y0A L);repeat(refine s_ ?_;simp[y0A,y0H])
 refine Qn (sl':=[(1,.vptr 0 0),(2,.nils),(3,.vptr Y.length 0),(4,.nils),(5,.nils),(13,.i a.fin.length),(14,.i (0:Nat))]) ?_ (by simp);refine Q3 4 3 1 rfl ?_;simp;refine Q3 5 3 1 rfl ?_;simp;refine Q4 λZ hZ=>?_;have zM:Z[M]?=some (mpN (Uc a)):=by rw[hZ];exact Qa zb _
 have zN:Z[Y.length]?=some (.vars [.mref M]):=by rw[hZ,zH (by omega)];simp
 have zo:Z[Y.length+1]?=some (.arr 3 1 []):=by rw[hZ,zH (by omega)];simp
 have zf:Z[Y.length+2]?=some (.arr 3 1 []):=by rw[hZ,zH (by omega)];simp
 clear hZ y0A y0H y0;generalize Y.length=N at *;clear zb;clear Y
 have zc:Su (eqS a) 0=([],[]):=by unfold Su;rfl
 have zd:clA a=(Su (eqS a) a.fin.length).2:=rfl;rw[zd];refine Qj (Qc (sl':=[(1,.vptr 0 0),(2,.nils),(3,.vptr N 0),(4,.sl (N+1) 1 0 (Su (eqS a) 0).2.length),(5,.sl (N+2) 1 0 (Su (eqS a) 0).1.length),(13,.i a.fin.length),(14,.i (0:Nat))]) ?_ (by simp[zc]));refine Qi (P:=prog) (F:=λ(u:Nat×Nat×Nat×List AObj)=>⟨[(1,.vptr 0 0),(2,.nils),(3,.vptr N 0),(4,.sl u.2.1 1 0 (Su (eqS a) u.1).2.length),(5,.sl u.2.2.1 1 0 (Su (eqS a) u.1).1.length),(13,.i a.fin.length),(14,.i u.1)],u.2.2.2⟩)
  (λu=>u.1<=a.fin.length/\u.2.2.2[M]?=some (mpN (Uc a))/\u.2.2.2[N]?=some (.vars [.mref M])/\u.2.2.2[u.2.1]?=some (.arr 3 1 ((T0 (Su (eqS a) u.1).2).map AV.i))/\u.2.2.2[u.2.2.1]?=some (.arr 3 1 ((T0 (Su (eqS a) u.1).1).map AV.i))/\u.2.1≠u.2.2.1) (λu=>a.fin.length - u.1) ?_ (0,N+1,N+2,Z) ⟨xI _,zM,zN,by rw[zc];exact zo,by rw[zc];exact zf,by simp⟩
 clear zM zN zo zf;clear Z;rintro⟨i,qo,q9,G⟩ ⟨hi,gM,gN,go,gf,ze⟩ ih;simp only at hi gM gN go gf ze ih |-;have z7:=q0y (g1j ha) i hi;have zg:=z7.len;have zh:(Su (eqS a) i).1.length<=i:=by have zt:(Su (eqS a) i).1.Nodup:=z7.asc.imp λh=>Nat.ne_of_lt h;have:=Ts _ (yU i) zt λx hx=>xJ.2 (z7.lt x hx);simpa using this
 have z8:=z7.lt;repeat(refine s_ ?_;simp)
 refine Qb rfl (λzu=>?_) (λzv=>?_)
 ·have zi:i<a.fin.length:=by simpa using zu
  have hw:=wz i (by omega);have zm:=B4 (eqS a) i;have z1:=λq' q2 H'=>ih (i+1,q',q2,H');simp only[zm]at z1;unfold X7 at z1;generalize Su (eqS a) i=st at *
  obtain⟨fs,out⟩:=st;simp only at z1 zg zh z8 go gf;clear z7 zm;repeat(refine s_ ?_;simp)
  have y3:=Qe gN;have y4:=Qe go;have y5:=Qe gf;refine Qu rfl rfl (w13 (G++[AObj.vars [AV.i (i:Int)]]) q9 (T0 fs) 179 [.vptr N 0,.vptr G.length 0] (λz=>eqS a i z.toNat) (Qa gf _) fs.length (by simp) (by simp;omega) (λz hz=>by
   obtain⟨k,hk,rfl⟩:=zQ.1 hz;have y6:=z8 k hk;exact M1 a ha.ok _ N M G.length i k (Qa gN _) (Qa gM _) (by simp) zr zi (by omega))) rfl ?_
  rintro _ _ ⟨rfl,rfl⟩;rw[q2v];simp;have kI:(G++[AObj.vars [AV.i (i:Int)]])[G.length]?=some (.vars [.i i]):=by simp
  have kM:(G++[AObj.vars [AV.i (i:Int)]])[M]?=some (mpN (Uc a)):=Qa gM _;have kN:(G++[AObj.vars [AV.i (i:Int)]])[N]?=some (.vars [.mref M]):=Qa gN _;have ko:(G++[AObj.vars [AV.i (i:Int)]])[qo]?=some (.arr 3 1 ((T0 out).map AV.i)):=Qa go _;have kf:(G++[AObj.vars [AV.i (i:Int)]])[q9]?=some (.arr 3 1 ((T0 fs).map AV.i)):=Qa gf _;generalize G.length=I at *;generalize G++[AObj.vars [AV.i (i:Int)]]=Y at *
  have z6:((T0 out).map AV.i).length=out.length:=by simp
  have za:((T0 fs).map AV.i).length=fs.length:=by simp
  have zn:qo≠M:=λe=>by rw[e,kM]at ko;simp[mpN]at ko
  have zp:qo≠N:=λe=>by rw[e,kN]at ko;simp at ko
  have zw:q9≠M:=λe=>by rw[e,kM]at kf;simp[mpN]at kf
  have zx:q9≠N:=λe=>by rw[e,kN]at kf;simp at kf
  have y7:q9≠I:=λe=>by rw[e,kI]at kf;simp at kf
  have mo:∀c:Nat,(T0 (out++[c])).map AV.i=(T0 out).map AV.i++[.i c]:=λc=>by simp
  have mf:∀c:Nat,(T0 (fs++[c])).map AV.i=(T0 fs).map AV.i++[.i c]:=λc=>by simp
  cases hix:fs.findIdx? (eqS a i)with
  |some t=>
   rw[hix]at z1;simp only[mo]at z1;generalize (T0 out).map AV.i=ao at *
   repeat(refine s_ ?_;simp)
   refine Qb rfl (λh=>by first|(simp at h;done)|(simp at h;omega)) (λ_=>?_);repeat(refine s_ ?_;simp)
   refine apS T47 T3 ?_;simp[Qa ko,Qh ko,z6];refine⟨by simp[Wg,Qa ko,Qh ko,z6]<;>omega,?_⟩;repeat(refine s_ ?_;simp[hw])
   refine Qc (sl':=[(1,.vptr 0 0),(2,.nils),(3,.vptr N 0),(4,.sl (Y.length+1) 1 0 (out++[t]).length),(5,.sl q9 1 0 fs.length),(13,.i a.fin.length),(14,.i (i+1:Nat))]) ?_ (by simp);refine z1 (Y.length+1) q9 _ ⟨by omega,Qa (Qd zn kM _) _,Qa (Qd zp kN _) _,?_,Qa (Qd ze kf _) _,by have:=Qe kf;omega⟩ (by omega);rw[zH (by simp)];simp
  |none=>
   rw[hix]at z1;simp only[mo,mf]at z1;generalize (T0 out).map AV.i=ao at *;generalize (T0 fs).map AV.i=af at *
   repeat(refine s_ ?_;simp)
   refine Qb rfl (λ_=>?_) (λh=>by first|(simp at h;done)|(simp at h;omega));repeat(refine s_ ?_;simp[kI])
   refine apS T47 T3 ?_;simp[Qa kf,Qh kf,za];refine⟨by simp[Wg,Qa kf,Qh kf,za]<;>omega,?_⟩;refine Q4 λZ hZ=>?_;have zM:Z[M]?=some (mpN (Uc a)):=by rw[hZ];exact Qa (Qd zw kM _) _
   have zN:Z[N]?=some (.vars [.mref M]):=by rw[hZ];exact Qa (Qd zx kN _) _
   have zo:Z[qo]?=some (.arr 3 1 ao):=by rw[hZ];exact Qa (Qd (Ne.symm ze) ko _) _
   have zf:Z[Y.length+1]?=some (.arr 3 1 (af++[.i i])):=by rw[hZ,zH (by simp)];simp
   have zj:qo≠Y.length+1:=by have:=Qe ko;omega
   clear hZ;generalize Y.length+1=qf2 at *
   repeat(refine s_ ?_;simp)
   refine apS T47 T3 ?_;simp[Qa zo,Qh zo,z6];refine⟨by simp[Wg,Qa zo,Qh zo,z6]<;>omega,?_⟩;repeat(refine s_ ?_;simp[hw])
   refine Qc (sl':=[(1,.vptr 0 0),(2,.nils),(3,.vptr N 0),(4,.sl (Z.length+1) 1 0 (out++[fs.length]).length),(5,.sl qf2 1 0 (fs++[i]).length),(13,.i a.fin.length),(14,.i (i+1:Nat))]) ?_ (by simp);refine z1 (Z.length+1) qf2 _ ⟨by omega,Qa (Qd zn zM _) _,Qa (Qd zp zN _) _,?_,Qa (Qd zj zf _) _,by have:=Qe zf;omega⟩ (by omega);rw[zH (by simp)];simp
 have zk:i=a.fin.length:=by simp at zv;omega
 subst zk;have zy:((T0 (Su (eqS a) a.fin.length).2).map AV.i).length=(Su (eqS a) a.fin.length).2.length:=by simp
 generalize zl:(T0 (Su (eqS a) a.fin.length).2).map AV.i=acc at *
 repeat(refine s_ ?_;simp[go,zy])
 rw[zV (by omega),<-zl];simp
end
section
open Go Go.Proofs Go.Maps Go.RowKit
@[simp] theorem encMac_pure (a:Aut):(T1 a).pure=true:=by simp[T1,Wl,Yp,Ys,AV.pure]
attribute [local irreducible] Kp Wc Ew Yp W1 Yb lkN Uc Su clA Gu
end
section
open Go Go.Proofs Go.RowKit Go.Shelf Go.Lib Go.Sort
abbrev BIv:={ x:Iv // Sz x }
instance:Inhabited BIv:=⟨⟨⟨0,0⟩,by unfold Sz inB;decide⟩⟩
def y14(x:BIv):List Value:=L8 x.1
def y26(x y:BIv):Int:=x.1.lo - y.1.lo
def Mz(x y:BIv)(W:World):Calls prog 203 #[.agg #[.int .i64 x.1.lo,.int .i64 x.1.hi],.agg #[.int .i64 y.1.lo,.int .i64 y.1.hi]] W λe w'=>e= .returned (.int .i64 (y26 x y))/\∃q os',w'=grow (W.drewN q) os':=by
 have h1:=(Es _).1 x.2.1;have h2:=(Es _).1 y.2.1;have hw:IntKind.i64.wrap (x.1.lo - y.1.lo)=y26 x y:=wrap_i64 _ (by omega) (by omega)
 go_enter func203,ntmps203
 go_wp2
 go_ret
 exact⟨rfl,0,_,by rw[alloc_eq_grow,alloc_eq_grow,grow_grow];rfl⟩
def g1o(x y:BIv):ltOf y26 x y=decide (x.1.lo<y.1.lo):=by unfold ltOf y26;rw[wK];simp;omega
def u2d:SWO (ltOf y26) where
 irrefl x:=by rw[g1o];simp
 trans x y z h1 h2:=by rw[g1o]at *;simp at *;omega
 ntrans x y z h1 h2:=by rw[g1o]at *;simp at *;omega
def g2l(l:List BIv):RowOf 2 ((l.map (·.1)).map encIv) (flatK y14 2 l.toArray) where
 size:=by simp
 width x hx:=by obtain⟨y,_,rfl⟩:=zQ.1 hx;rfl
 cell i x hx j y hy:=by
  rw[zS,zS]at hx;obtain⟨z0,z1,rfl⟩:=zP.1 hx;obtain⟨z,hz,rfl⟩:=zP.1 z1;obtain⟨hi,rfl⟩:=zB.1 hz;have hj:j<2:=(zB.1 hy).1;rw[get_flatK _ _ _ _ (by simp;omega)];rw[show(i * 2+j) / 2=i by omega,show(i * 2+j) % 2=j by omega];rw[getElem!_pos l.toArray i (by simpa using hi)]
  match j,hj with
  |0,_=>simp[encIv,AV.cells]at hy;subst hy;rfl
  |1,_=>simp[encIv,AV.cells]at hy;subst hy;rfl
def z1n(H:List AObj)(p:Nat)(l:List BIv)(hp:H[p]?=some (.arr 144 2 ((l.map (·.1)).map encIv)))(hl:l.length<=1000000):
  FC prog 174 [.sl p 2 0 l.length,.fn (.func 203) [] []] H
   (λr H'=>r= .tup []/\∃l':List BIv,l'.Perm l/\Za (l'.map (·.1))/\H'=H.set p (.arr 144 2 ((l'.map (·.1)).map encIv))):=by
 refine(c0i (xs:=(l.map (·.1)).map encIv) (R3 func174 rfl rfl) (by simp) hp (g2l l) [.func (.func 203) #[] #[]] (λw I m vs a b=>H9 _ w I m _ vs a b) (λz1=>∃l':List BIv,l'.Perm l/\Za (l'.map (·.1))/\z1=(l'.map (·.1)).map encIv) ?_ ?_).mono ?_
 ·intro b cap w hH hb hc;have eg:∀args w,(callFunc 203 args).run prog w= .ok (.enter 203 args) w:=enters_of func203 (by kernel_rfl) rfl;have:=AnyQ.slices_SortFunc Tryz.sortIv 2 isAgg144 sizeOf144 y14 (λ_=>rfl) (λx v hv=>by simp[y14,L8]at hv;rcases hv with rfl|rfl<;>rfl) y26 u2d 203 #[] b 0 cap l.toArray w eg (λ_ _ _ _ x y=>Mz x y _) hH hb (by simp;omega);change Calls prog 174 _ _ _ at this;rw[show(l.toArray).size=l.length by simp]at this;refine Calls.mono (this) ?_;rintro e w' ⟨rfl,d',n,os,h1,h2,rfl⟩;obtain⟨s1,_,s3⟩:=h1;have hs:d'.toList.length=l.length:=by simpa using s1
  refine⟨rfl,(d'.toList.map (·.1)).map encIv,flatK y14 2 d',n,os,⟨d'.toList,?_,?_,rfl⟩,by simp[hs],by simpa using g2l d'.toList,rfl⟩
  ·rw[show d'.extract 0 l.length=d' by simp[<-hs],show l.toArray.extract 0 l.length=l.toArray by simp]at s3;simpa using s3
  refine xM.2 (yL.2 λi j hi hj z6=>?_);have:=h2 i j (xI _) z6 (by omega);rw[g1o,getElem!_pos d' i (by simpa using hi),getElem!_pos d' j (by simpa using hj)]at this;simpa using this
 ·rintro h;have z7:l=[]:=by
   cases l with
   |nil=>rfl
   |cons x r=>simp at h
  subst z7;exact⟨⟨[],.refl _,.nil,rfl⟩,λw=>AnyF.slices_SortFunc_none Tryz.sortIv none 0 _ w⟩
 rintro r H' ⟨rfl,z1,⟨l',h1,h2,rfl⟩,rfl⟩;exact⟨rfl,l',h1,h2,rfl⟩
def v1z(H:List AObj)(p:Nat)(l:List Iv)(hp:H[p]?=some (.arr 144 2 (l.map encIv)))(hl:l.length<=1000000)(z1:∀y∈l,Sz y):
  FC prog 174 [.sl p 2 0 l.length,.fn (.func 203) [] []] H
   (λr H'=>r= .tup []/\∃l':List Iv,l'.Perm l/\Za l'/\H'=H.set p (.arr 144 2 (l'.map encIv))):=by
 have hb:(l.attach.map λx=>(⟨x.1,z1 x.1 x.2⟩:BIv)).map (·.1)=l:=by simp
 have:=z1n H p (l.attach.map λx=>(⟨x.1,z1 x.1 x.2⟩:BIv)) (by rw[hb];exact hp) (by simpa using hl);rw[show(l.attach.map λx=>(⟨x.1,z1 x.1 x.2⟩:BIv)).length=l.length by simp]at this;refine this.mono ?_;rintro r H' ⟨rfl,l',h1,h2,rfl⟩;refine⟨rfl,l'.map (·.1),?_,h2,rfl⟩;have:=h1.map (·.1)
 rwa [hb]at this
end
section
open Go Go.Proofs Go.Maps Go.RowKit
attribute [local irreducible] Wt Qz Ez Qv Ux F2
def f0r(T:Nat)(l:List Prd)(hT:T<=16)(hl:∀p∈l,PWf T p)(hn:∀i,i<T->(Qv l i).length<=1000000)(ye:l.length<=1000000):PC prog 139 [.i T,LP l] (λr=>r=encP (Ux T l)):=by
 refine pcB func139 results139 ntmps139 ?_;simp only[Qf];simp only[encP];repeat(refine s_ ?_;simp)
 refine Rb tOk rfl rfl rfl T68 rfl P3 rfl rfl rfl (n:=T) (by simp;omega) (by unfold maxLen;omega) .nils rfl ?_;simp;repeat(refine s_ ?_;simp)
 rw[V8 (λk=>Ez (Qv l k))];refine Qj (Qc (sl':=[(0,.i T),(1,LP l),(4,.vptr 0 0),(5,.vptr 2 0),(17,.i T),(18,.i (0:Nat))]) ?_ (by simp));refine Qi (P:=prog) (F:=λ(u:Nat×List AObj)=>⟨[(0,.i T),(1,LP l),(4,.vptr 0 0),(5,.vptr 2 0),(17,.i T),(18,.i u.1)],u.2⟩)
  (λu=>u.1<=T/\3<=u.2.length/\u.2[0]?=some (.vars [.nils])/\u.2[1]?=some (.arr 145 1 (F2 (λk=>Ez (Qv l k)) T u.1))/\u.2[2]?=some (.vars [.sl 1 1 0 T])) (λu=>T - u.1) ?_ (0,_) ⟨by simp,by simp,rfl,rfl,rfl⟩
 rintro⟨i,H2⟩ ⟨hi,hH,g0,g1,g2⟩ ih;simp only at hi hH g0 g1 g2 ih |-;repeat(refine s_ ?_;simp)
 refine Qb rfl (λy3=>?_) (λy4=>?_)
 ·have z7:i<T:=by simpa using y3
  have hw:=wz i (by omega);have zd:=x0i (λk=>Ez (Qv l k)) z7;have zq:=z0x (λk=>Ez (Qv l k)) z7;have y5:=z09 (λk=>Ez (Qv l k)) T i;have zh:=hn i z7;have zr:=λH'=>ih (i+1,H');simp only[<-zd]at zr;clear zd;generalize F2 (λk=>Ez (Qv l k)) T i=row at *
  repeat(refine s_ ?_;simp)
  refine Qn (sl':=[(0,.i T),(1,LP l),(4,.vptr 0 0),(5,.vptr 2 0),(6,.i i),(7,.nils),(17,.i T),(18,.i i),(21,LP l),(22,.i l.length),(23,.i (0:Nat))]) ?_ (by simp);refine Q3 7 144 2 rfl ?_;simp;have hst:=SL.start H2 144 2;refine Qj (Qc (sl':=[(0,.i T),(1,LP l),(4,.vptr 0 0),(5,.vptr 2 0),(6,.i i),(7,.sl H2.length 2 0 (Qv (l.take 0) i).length),(17,.i T),(18,.i i),(21,LP l),(22,.i l.length),(23,.i (0:Nat))]) ?_ (by simp[Up]));refine Qi (P:=prog) (F:=λ(u:Nat×Nat×List AObj)=>⟨[(0,.i T),(1,LP l),(4,.vptr 0 0),(5,.vptr 2 0),(6,.i i),(7,.sl u.2.1 2 0 (Qv (l.take u.1) i).length),(17,.i T),(18,.i i),(21,LP l),(22,.i l.length),(23,.i u.1)],u.2.2⟩)
   (λu=>u.1<=l.length/\SL H2 u.2.2 u.2.1 144 2 ((Qv (l.take u.1) i).map encIv)) (λu=>l.length - u.1) ?_ (0,H2.length,_) ⟨xI _,by rw[wd,Up];exact hst⟩
  rintro⟨j,q,G⟩ ⟨hj,g⟩ ih2;simp only at hj g ih2 |-;repeat(refine s_ ?_;simp)
  refine Qb rfl (λza=>?_) (λzb=>?_)
  ·have z1:j<l.length:=by simpa using za
   have ze:=wz j (by omega);have hp:=hl _ (zL z1);have zi:i<l[j].length:=by rw[hp.1];exact z7
   have zc:=P7 z1 zi;have zj:(Qv (l.take (j+1)) i).length<=1000000:=by refine yP ?_ zh;unfold Qv;rw[<-xO (j+1) l,wJ,zW,xO];omega
   rw[zc,zW]at zj;have z6:=λq' G'=>ih2 (j+1,q',G');simp only[zc]at z6;clear zc;have zt:(so encP l)[j]?=some (encP l[j]):=by simp[z1]
   have zu:∀hh,(so encP l)[j]'hh=encP l[j]:=λhh=>by simp
   generalize l[j]=pj at *
   have y6:(pj.map encL)[i]?=some (encL pj[i]):=by simp[zi]
   have y7:∀hh,(pj.map encL)[i]'hh=encL pj[i]:=λhh=>by simp
   generalize pj[i]=s at *;generalize Qv (l.take j) i=acc at *
   have zv:(acc.map encIv).length=acc.length:=by simp
   simp only[encP]at zt zu;repeat(refine s_ ?_;simp[zt,zu,z1,zi,y6,y7])
   have g2:=g.add [.vars [.list (pj.map encL)]];generalize G++[AObj.vars [.list (pj.map encL)]]=Y at *;generalize zk:acc.map encIv=ac at *;refine apS P3 Kz ?_
   simp[Qa g2.arr,Qh g2.arr,g2.arr,zv];refine⟨⟨λy hy=>?_,by simp[zv];omega⟩,?_⟩
   ·obtain⟨x,_,rfl⟩:=zQ.1 hy;exact⟨rfl,rfl⟩
   repeat(refine s_ ?_;simp[ze])
   refine Qc (sl':=[(0,.i T),(1,LP l),(4,.vptr 0 0),(5,.vptr 2 0),(6,.i i),(7,.sl Y.length 2 0 (acc++s).length),(17,.i T),(18,.i i),(21,LP l),(22,.i l.length),(23,.i (j+1:Nat))]) ?_ (by simp);refine z6 Y.length _ ⟨by omega,?_⟩ (by omega);rw[yR,zk];exact g2.put [] (ac++s.map encIv) (by simp)
  have z8:j=l.length:=by simp at zb;omega
  subst z8;rw[yI]at g |-;have zl:∀y∈Qv l i,Sz y/\y.lo<=y.hi:=λy hy=>Bi hl hy;generalize yf:Qv l i=L at *
  have zm:=g.ge;repeat(refine s_ ?_;simp)
  refine Qu rfl rfl (v1z G q L g.arr zh (λy hy=>(zl y hy).1)) rfl ?_;rintro r H' ⟨rfl,l',h1,h2,rfl⟩;simp;have hl':l'.length<=1000000:=by rw[h1.length_eq];exact zh
  have y8:=h1.length_eq;have zn:∀y∈l',Sz y:=λy hy=>(zl y (h1.mem_iff.1 hy)).1;have zf:=D8 L l' (λy hy=>(zl y hy).2) h1 h2;rw[<-y8];have gq:=Qg g.arr (.arr 144 2 (l'.map encIv));have gk:∀j,j<H2.length->(G.set q (.arr 144 2 (l'.map encIv)))[j]? =H2[j]? :=λj hj=>by rw[zE (by omega)];exact g.keep j hj
  generalize G.set q (.arr 144 2 (l'.map encIv))=G1 at *
  repeat(refine s_ ?_;simp)
  refine Qn (sl':=[(0,.i T),(1,LP l),(4,.vptr 0 0),(5,.vptr 2 0),(6,.i i),(10,.nils),(17,.i T),(18,.i i),(37,.sl q 2 0 l'.length),(38,.i l'.length),(39,.i (0:Nat))]) ?_ (by simp);refine Ws q gq ?_;simp[AV.fz];rw[zV (by simp)];have y9:∀j,j<H2.length->(G1.set q .dead)[j]? =H2[j]? :=λj hj=>by rw[zE (by omega)];exact gk j hj
  have yg:H2.length<=(G1.set q .dead).length:=by have:=Qe gq;simp;omega
  generalize G1.set q .dead=K at *;refine Q3 10 144 2 rfl ?_
  simp;have hst:=SL.start K 144 2;refine Qj (Qc (sl':=[(0,.i T),(1,LP l),(4,.vptr 0 0),(5,.vptr 2 0),(6,.i i),(10,.sl K.length 2 0 (Qz [] (l'.take 0)).length),(17,.i T),(18,.i i),(37,LIv l'),(38,.i l'.length),(39,.i (0:Nat))]) ?_ (by simp[Qz]));refine Qi (P:=prog) (F:=λ(u:Nat×Nat×List AObj)=>⟨[(0,.i T),(1,LP l),(4,.vptr 0 0),(5,.vptr 2 0),(6,.i i),(10,.sl u.2.1 2 0 (Qz [] (l'.take u.1)).length),(17,.i T),(18,.i i),(37,LIv l'),(38,.i l'.length),(39,.i u.1)],u.2.2⟩)
   (λu=>u.1<=l'.length/\SL K u.2.2 u.2.1 144 2 ((Qz [] (l'.take u.1)).map encIv)) (λu=>l'.length - u.1) ?_ (0,K.length,_) ⟨xI _,by rw[wd,Qz,List.foldl_nil];exact hst⟩
  clear g gq gk ih2 hst zm;clear G G1 q;rintro⟨j,p,G⟩ ⟨hj,g⟩ ih2;simp only at hj g ih2 |-;repeat(refine s_ ?_;simp)
  refine Qb rfl (λza=>?_) (λzb=>?_)
  ·have z1:j<l'.length:=by simpa using za
   have ze:=wz j (by omega);have zd:Qz [] (l'.take (j+1))=Wt (Qz [] (l'.take j)) l'[j]:=by rw[zU z1,P2]
   have zw:(Qz [] (l'.take j)).length<=j:=yP (Rs _ _) (by simp;omega);have zo:∀y∈Qz [] (l'.take j),Sz y:=Sv _ _ (by simp) (λy hy=>zn y (xX hy));have z6:=λp' G'=>ih2 (j+1,p',G');simp only[zd]at z6;clear zd;generalize Qz [] (l'.take j)=acc at *;generalize hx:l'[j]=x at *
   repeat(refine s_ ?_;simp[z1,hx])
   rcases List.eq_nil_or_concat acc with rfl|⟨ini,y,rfl⟩
   ·refine Qo tOk mixed [] (.val 0 (.val 1 (.val 2 (.val 3 (.val 4 (.val 5 (.val 6 (.val 7 (.val 8 (.val 9 (.val 10 (.val 11 (.val 12 (.val 13 (.done))))))))))))))) rfl (by kernel_rfl) ?_;simp;refine Qr rfl ?_;simp;repeat(refine s_ ?_;simp)
    refine apS P3 Kz ?_;simp[Qa g.arr,Qh g.arr];refine⟨by simp[Wg,Qa g.arr,Qh g.arr]<;>omega,?_⟩;repeat(refine s_ ?_;simp[ze])
    refine Qc (sl':=[(0,.i T),(1,LP l),(4,.vptr 0 0),(5,.vptr 2 0),(6,.i i),(10,.sl (G.length+2) 2 0 1),(17,.i T),(18,.i i),(37,LIv l'),(38,.i l'.length),(39,.i (j+1:Nat))]) ?_ (by simp);have:=z6 (G.length+2) _ ⟨by omega,by rw[Wt];exact g.put [AObj.vars [AV.i x.lo,AV.i x.hi],AObj.arr 144 2 [encIv x]] _ rfl⟩ (by omega);rw[Wt]at this;simpa using this
   have yh:=(Es _).1 (zo y (by simp)).2;have zx:IntKind.i64.wrap (y.hi+1)=y.hi+1:=wrap_i64 _ (by omega) (by omega);have gA:=g.arr;rw[List.concat_eq_append]at g gA z6 zw |-;have hlen:(ini++[y]).length=ini.length+1:=by simp
   rw[hlen]at zw |-;have zy:IntKind.i64.wrap (ini.length:Int)=ini.length:=wrap_i64 _ (by omega) (by omega);have hg:((ini++[y]).map encIv)[ini.length]?=some (encIv y):=by simp
   have zg:(ini.length:Int)<ini.length+1:=by omega
   refine Qo tOk mixed [] (.val 0 (.val 1 (.val 2 (.val 3 (.val 4 (.val 5 (.val 6 (.val 7 (.val 8 (.val 9 (.val 10 (.val 11 (.val 12 (.val 13 (.done))))))))))))))) rfl (by kernel_rfl) ?_;simp[Qa gA,zy,hg,zx,zg];refine Qb rfl (λh1=>?_) (λh1=>?_)
   ·repeat(refine s_ ?_;simp)
    refine Qo tOk mixed [14] (.val 0 (.val 1 (.val 2 (.val 3 (.val 4 (.val 5 (.val 6 (.val 7 (.val 8 (.val 9 (.val 10 (.val 11 (.val 12 (.val 13 (.one 14 (.done)))))))))))))))) rfl (by kernel_rfl) ?_;simp[Qa gA,zy,hg,zx,zg,Qh gA];repeat(refine s_ ?_;simp[ze])
    have hR:Wt (ini++[y]) x=ini++[⟨y.lo,if y.hi<x.hi then x.hi else y.hi⟩]:=by rw[W7,if_pos (by simpa using h1)]
    rw[hR]at z6;refine Qc (sl':=[(0,.i T),(1,LP l),(4,.vptr 0 0),(5,.vptr 2 0),(6,.i i),(10,.sl p 2 0 (ini.length+1)),(17,.i T),(18,.i i),(37,LIv l'),(38,.i l'.length),(39,.i (j+1:Nat))]) ?_ (by simp);have:=z6 p _ ⟨by omega,g.upd [AObj.vars [AV.i x.lo,AV.i x.hi]] _⟩ (by omega);simpa using this
   repeat(refine s_ ?_;simp)
   refine apS P3 Kz ?_;simp[Qa gA,Qh gA];refine⟨by simp[Wg,Qa gA,Qh gA]<;>omega,?_⟩;repeat(refine s_ ?_;simp[ze])
   have hR:Wt (ini++[y]) x=ini++[y]++[x]:=by rw[W7,if_neg (by simpa using h1)]
   rw[hR]at z6;refine Qc (sl':=[(0,.i T),(1,LP l),(4,.vptr 0 0),(5,.vptr 2 0),(6,.i i),(10,.sl (G.length+2) 2 0 (ini.length+2)),(17,.i T),(18,.i i),(37,LIv l'),(38,.i l'.length),(39,.i (j+1:Nat))]) ?_ (by simp);have:=z6 (G.length+2) _ ⟨by omega,g.put [AObj.vars [AV.i x.lo,AV.i x.hi],AObj.arr 144 2 [encIv x]] _ rfl⟩ (by omega);simpa using this
  have z8:j=l'.length:=by simp at zb;omega
  subst z8;rw[yI,zf]at g |-;refine Ws p g.arr ?_;simp[AV.fz];rw[zV (by simp)];have yi:=Qe g.arr;have ya:=g.ge;have yk:∀j,j<H2.length->(G.set p .dead)[j]? =H2[j]? :=λj hj=>by rw[zE (by omega),g.keep j (by omega)];exact y9 j hj
  have yl:3<=(G.set p .dead).length:=by simp;omega
  generalize G.set p .dead=Y at *
  have y0:=(yk 0 (by omega)).trans g0;have y1:=(yk 1 (by omega)).trans g1;have y2:=(yk 2 (by omega)).trans g2;have y1H:∀hh,Y[1]'hh= .arr 145 1 row:=λhh=>(zY hh).2 y1;have yb:∀hh,row[i]'hh= .nils:=λhh=>(zY hh).2 zq;repeat(refine s_ ?_;simp[y1,y2,y1H,z7,y5,zq,yb,hw])
  refine Qc (sl':=[(0,.i T),(1,LP l),(4,.vptr 0 0),(5,.vptr 2 0),(17,.i T),(18,.i (i+1:Nat))]) ?_ (by simp);exact zr _ ⟨by omega,by simp;omega,Qd (by decide) y0 _,Qg y1 _,Qd (by decide) y2 _⟩ (by omega)
 have zp:i=T:=by simp at y4;omega
 subst zp;rw[Ch]at *
 have yc:(yU i).map (λk=>Ez (Qv l k))=Ux i l:=by unfold Ux;rfl
 rw[yc]at *;refine Q6 1 g1 2 g2 ?_
 have zz:=x0k i l;have e0:∀Y,((H2.set 1 AObj.dead).set 2 Y)[0]?=some (AObj.vars [AV.nils]):=λY=>Qd (by decide) (Qd (by decide) g0 _) _;have yd:∀Y hh,((H2.set 1 AObj.dead).set 2 Y)[0]'hh=AObj.vars [AV.nils]:=λY hh=>by have:=e0 Y;rw[zI hh]at this;exact Option.some.inj this
 have e2:∀Y,((H2.set 1 AObj.dead).set 2 Y)[2]?=some Y:=λY=>Qg (Qd (by decide) g2 _) _;have e3:∀Y Z,(((H2.set 1 AObj.dead).set 2 Y).set 0 Z)[0]?=some Z:=λY Z=>Qg (e0 Y) _;simp[zz];rw[zV (by simp[zz])];repeat(refine s_ ?_;simp[e0,yd,e2,e3])
 unfold Ux;rw[vT]
end
section
open Go Go.Proofs Go.Maps Go.RowKit
def Cp(a:Aut)(cl:List Nat)(s:Int)(j t:Nat):List Prd:=(((Wc a s).take j).filter λm=>decide (clD cl m=t)).map (·.on)
def Kj(ks:List Nat)(t:Nat):List Nat:=if t∈ks then ks else ks++[t]
def Ly(a:Aut)(cl:List Nat)(s:Int)(j:Nat):List Nat:=((Wc a s).take j).foldl (λks m=>Kj ks (clD cl m)) []
def g1a(a:Aut)(cl:List Nat)(s:Int)(t:Nat):Cp a cl s (Wc a s).length t=Pl a cl s t:=by simp[Cp,Pl]
def w1i(a:Aut)(cl:List Nat)(s:Int){j:Nat}(h:j<(Wc a s).length):Cp a cl s (j+1)=λt=>if t=clD cl (Wc a s)[j]then Cp a cl s j (clD cl (Wc a s)[j])++[(Wc a s)[j].on]else Cp a cl s j t:=by
 funext t;unfold Cp;rw[zU h,List.filter_append,yR,List.filter_cons,List.filter_nil];by_cases e:t=clD cl (Wc a s)[j]
 ·subst e;simp
 rw[if_neg e,if_neg (by simpa using λk=>e k.symm)];simp
def g0l(a:Aut)(cl:List Nat)(s:Int):Ly a cl s 0=[]:=by simp[Ly]
def j0x(a:Aut)(cl:List Nat)(s:Int){j:Nat}(h:j<(Wc a s).length):Ly a cl s (j+1)=Kj (Ly a cl s j) (clD cl (Wc a s)[j]):=by unfold Ly;rw[zU h,wQ];rfl
def y03{ks:List Nat}{t u:Nat}:u∈Kj ks t↔u∈ks\/u=t:=by
 unfold Kj;split
 ·rename_i h;exact⟨.inl,λk=>k.elim id (λe=>e▸h)⟩
 simp
def z2w{ks:List Nat}{t:Nat}(h:ks.Nodup):(Kj ks t).Nodup:=by
 unfold Kj;split
 ·exact h
 rename_i hn;rw[vw];refine⟨h,by simp,λx hx y hy e=>hn ?_⟩;rw[zO]at hy;rw[<-hy,<-e];exact hx
def q1y(cl:List Nat):∀(l:List Mv) (ks:List Nat) (t:Nat),t∈l.foldl (λks m=>Kj ks (clD cl m)) ks↔t∈ks\/∃m∈l,clD cl m=t
 |[],ks,t=>by simp
 |m::l,ks,t=>by
  rw[xU,q1y cl l,y03];simp only[zX];constructor
  ·rintro((h|rfl)|⟨m',h1,h2⟩)
   ·exact .inl h
   ·exact .inr ⟨m,.inl rfl,rfl⟩
   exact .inr ⟨m',.inr h1,h2⟩
  rintro(h|⟨m',rfl|h1,h2⟩)
  ·exact .inl (.inl h)
  ·exact .inl (.inr h2.symm)
  exact .inr ⟨m',h1,h2⟩
def x2n(cl:List Nat):∀(l:List Mv) (ks:List Nat),ks.Nodup->(l.foldl (λks m=>Kj ks (clD cl m)) ks).Nodup
 |[],_,h=>h
 |m::l,ks,h=>x2n cl l _ (z2w h)
def Xz{a:Aut}{cl:List Nat}{s:Int}{j t:Nat}:t∈Ly a cl s j↔∃m∈(Wc a s).take j,clD cl m=t:=by unfold Ly;rw[q1y];simp
def q2o(a:Aut)(cl:List Nat)(s:Int)(j:Nat):(Ly a cl s j).Nodup:=x2n cl _ _ List.nodup_nil
def u1k{a:Aut}{cl:List Nat}{s:Int}{j t:Nat}(h:t∉Ly a cl s j):Cp a cl s j t=[]:=by unfold Cp;rw[List.map_eq_nil_iff,List.filter_eq_nil_iff];intro m hm k;exact h (Xz.2 ⟨m,hm,by simpa using k⟩)
attribute [simp] u28
def kvG(ks:List Nat)(gs:Nat->List Prd)(L:Nat->Nat):List (AV×AV):=ks.map λt:Nat=>(.i t,.sl (L t) 1 0 (gs t).length)
def c1f{ks:List Nat}(hn:ks.Nodup){gs:Nat->List Prd}{L:Nat->Nat}{j t np:Nat}(hj:ks[j]?=some t)(p:Prd):
  kvG ks (λu=>if u=t then gs t++[p]else gs u) (λu=>if u=t then np else L u)=(kvG ks gs L).set j (.i t,.sl np 1 0 ((gs t).length+1)):=by
 unfold kvG;refine xL λi=>?_;obtain⟨z6,z1⟩:=zB.1 hj;by_cases hi:i<ks.length
 ·by_cases e:i=j
  ·subst e;rw[zK (by simpa using hi),zS,hj];simp
  rw[zE (Ne.symm e),zS,zS,zI hi];have:ks[i]≠t:=λk=>e ((vW hn).1 (k.trans z1.symm));simp[this]
 rw[yY (by simp;omega),yY (by simp;omega)]
def w22{ks:List Nat}{gs:Nat->List Prd}{L:Nat->Nat}{t np:Nat}(ht:t∉ks)(h0:gs t=[])(p:Prd):
  kvG (ks++[t]) (λu=>if u=t then gs t++[p]else gs u) (λu=>if u=t then np else L u)=kvG ks gs L++[(.i t,.sl np 1 0 1)]:=by
 unfold kvG;rw[yR]
 congr 1
 ·refine y_ λu hu=>?_;have:u≠t:=λe=>ht (e▸hu);simp[this]
 simp[h0]
structure MG (K:List AObj) (M:Nat) (ks:List Nat) (gs:Nat->List Prd) (L:Nat->Nat) (H:List AObj):Prop where
 map:H[M]?=some (.mv (kvG ks gs L))
 leaf:∀t∈ks,H[L t]?=some (.arr 70 1 ((gs t).map encP))
 inj:∀t t',t∈ks->t'∈ks->L t=L t'->t=t'
 ne:∀t∈ks,L t≠M
 geM:K.length<=M
 geL:∀t∈ks,K.length<=L t
 keep:∀j,j<K.length->H[j]? =K[j]?
def MG.grow{K:List AObj}{M:Nat}{ks:List Nat}{gs:Nat->List Prd}{L:Nat->Nat}{H:List AObj}(h:MG K M ks gs L H)(E:List AObj):MG K M ks gs L (H++E):=by have hm:=Qe h.map;have z1:=h.geM;exact⟨Qa h.map E,λt ht=>Qa (h.leaf t ht) E,h.inj,h.ne,h.geM,h.geL,λj hj=>by rw[zF (by omega)];exact h.keep j hj⟩
def MG.put {K:List AObj} {M:Nat} {ks:List Nat} {gs:Nat->List Prd} {L:Nat->Nat} {H H':List AObj} (h:MG K M ks gs L H) {t:Nat} {p:Prd} {np:Nat} (zb:H.length<=np)
  (z8:H'[M]?=some (.mv (kvG (Kj ks t) (λu=>if u=t then gs t++[p]else gs u) (λu=>if u=t then np else L u)))) (z6:H'[np]?=some (.arr 70 1 ((gs t++[p]).map encP)))
  (hk:∀j,j<H.length->j≠M->(t∈ks->j≠L t)->H'[j]? =H[j]?):MG K M (Kj ks t) (λu=>if u=t then gs t++[p]else gs u) (λu=>if u=t then np else L u) H':=by
 have hm:=Qe h.map;have hL:=λu hu=>Qe (h.leaf u hu);have z1:∀u,u∈Kj ks t->u≠t->u∈ks:=λu hu za=>(y03.1 hu).resolve_right za;refine⟨z8,λu hu=>?_,λu v hu hv e=>?_,λu hu=>?_,h.geM,λu hu=>?_,λj hj=>?_⟩
 ·by_cases e:u=t
  ·subst e;simpa using z6
  simp only[e,if_false];have z7:=z1 u hu e;rw[hk _ (hL u z7) (h.ne u z7) (λht k=>e (h.inj u t z7 ht k))];exact h.leaf u z7
 ·by_cases e1:u=t
  ·by_cases e2:v=t
   ·rw[e1,e2]
   simp only[e1,e2,if_true,if_false]at e;have:=hL v (z1 v hv e2);omega
  by_cases e2:v=t
  ·simp only[e1,e2,if_true,if_false]at e;have:=hL u (z1 u hu e1);omega
  simp only[e1,e2,if_false]at e;exact h.inj u v (z1 u hu e1) (z1 v hv e2) e
 ·by_cases e:u=t
  ·simp only[e,if_true];omega
  simp only[e,if_false];exact h.ne u (z1 u hu e)
 ·have:=h.geM;by_cases e:u=t
  ·simp only[e,if_true];omega
  simp only[e,if_false];exact h.geL u (z1 u hu e)
 have zc:=h.geM;rw[hk j (by omega) (by omega) (λht e=>by have:=h.geL t ht;omega)];exact h.keep j hj
section
variable {nt k:Nat} {S:AS} {ops:Array Oper} {o:Oper} {R:AS->Prop}
def f0h{ks:List Nat}(hk:∀t∈ks,t<=1000000)(gs:Nat->List Prd)(L:Nat->Nat):∀p∈kvG ks gs L,isKey prog 3 p.1:=λp hp=>by obtain⟨t,ht,rfl⟩:=zQ.1 hp;exact W2 ⟨by omega,by have:=hk t ht;omega⟩
def Jl {wr:Bool} (hw:Qs ops S o=some true) (hd:Wm nt o=true) {x ix:Operand} (ho:o.op= .lookup 236 x ix false) {id:Nat} (hx:rho S.sl x=some (.mref id)) {t:Nat} (z1:rho S.sl ix=some (.i t)) {ks:List Nat} {gs:Nat->List Prd} {L:Nat->Nat} (z6:S.hp[id]?=some (.mv (kvG ks gs L)))
  (hk:∀t∈ks,t<=1000000) (ht:t<=1000000) (hR:R (S.putD o.dst (if t∈ks then .sl (L t) 1 0 (gs t).length else .nils))):Q9 prog nt k wr ops o S R:=by
 refine Vg tOk hw hd ho u28 rfl T87 R0 hx z1 z6 (W2 ⟨by omega,by omega⟩) (f0h hk gs L) (z:= .nils) (λw I=> .nils ..) (λj p hp he=>?_) (λz7=>?_)
 ·unfold kvG at hp;rw[zS]at hp;obtain⟨u,hu,rfl⟩:=zP.1 hp;have z8:u=t:=by simp at he;omega
  subst z8;rw[if_pos (zJ hu)]at hR;exact hR
 have:t∉ks:=λh=>z7 _ (zQ.2 ⟨t,h,rfl⟩) rfl;rw[if_neg this]at hR;exact hR
def Ls (hw:Qs ops S o=some true) (hd:Wm nt o=true) {x ix y:Operand} (ho:o.op= .mapUpdate 236 x ix y) {id:Nat} (hx:rho S.sl x=some (.mref id)) {t:Nat} (z6:rho S.sl ix=some (.i t)) {np n:Nat} (hy:rho S.sl y=some (.sl np 1 0 n)) {ks:List Nat} {gs:Nat->List Prd} {L:Nat->Nat} (z7:S.hp[id]?=some (.mv (kvG ks gs L)))
  (hk:∀t∈ks,t<=1000000) (ht:t<=1000000) (z8:ks.Nodup) (h0:t∉ks->gs t=[]) (p:Prd) (hn:n=(gs t).length+1) (hR:R (({ S with hp:=S.hp.set id (.mv (kvG (Kj ks t) (λu=>if u=t then gs t++[p]else gs u) (λu=>if u=t then np else L u))) }:AS).putD o.dst (.tup []))):Q9 prog nt k true ops o S R:=by
 subst hn;refine Fl tOk hw hd ho u28 rfl R0 hx z6 hy z7 (W2 ⟨by omega,by omega⟩) (f0h hk gs L) (λj q hq he=>?_) (λza=>?_)
 ·unfold kvG at hq;rw[zS]at hq;obtain⟨u,hu,rfl⟩:=zP.1 hq;have zb:u=t:=by simp at he;omega
  subst zb;have ha:Kj ks u=ks:=by unfold Kj;rw[if_pos (zJ hu)]
  rw[ha,c1f z8 hu p]at hR;exact hR
 have z1:t∉ks:=λh=>za _ (zQ.2 ⟨t,h,rfl⟩) rfl;have ha:Kj ks t=ks++[t]:=by unfold Kj;rw[if_neg z1]
 rw[ha,w22 z1 (h0 z1) p]at hR;rw[h0 z1];exact hR
end
end
section
open Go Go.Proofs Go.Maps Go.RowKit
def kvX(ks:List Nat)(gs:Nat->List Prd)(L:Nat->Nat)(k:Nat):List (AV×AV):=ks.mapIdx λi (t:Nat)=>(.i t,if i<k then .list ((gs t).map encP)else .sl (L t) 1 0 (gs t).length)
def u1i(ks:List Nat)(gs:Nat->List Prd)(L:Nat->Nat):kvX ks gs L 0=kvG ks gs L:=by unfold kvX kvG;refine xL λi=>?_;rw[vK,zS];cases ks[i]? <;>simp
def c12(ks:List Nat)(gs:Nat->List Prd)(L:Nat->Nat):kvX ks gs L ks.length=ks.map λt:Nat=>(.i t,.list ((gs t).map encP)):=by
 unfold kvX;refine xL λi=>?_;rw[vK,zS];by_cases h:i<ks.length
 ·rw[zI h];simp[h]
 rw[yY (by omega)];simp
def u19{ks:List Nat}(hn:ks.Nodup){gs:Nat->List Prd}{L:Nat->Nat}(z1:∀t t',t∈ks->t'∈ks->L t=L t'->t=t'){k t:Nat}(hk:ks[k]?=some t):
  (kvX ks gs L k).map (λp=>(p.1,p.2.fz (L t) 1 ((gs t).map encP)))=kvX ks gs L (k+1):=by
 obtain⟨z7,z6⟩:=zB.1 hk;unfold kvX;refine xL λi=>?_;rw[zS,vK,vK];by_cases h:i<ks.length
 ·rw[zI h];simp only[Option.map_some];by_cases e:i=k
  ·subst e;rw[z6,if_neg (by omega),if_pos (by omega),AV.fz,if_pos ⟨rfl,rfl,by simp⟩];simp[zV]
  by_cases h2:i<k
  ·rw[if_pos h2,if_pos (by omega)];simp[AV.fz]
  rw[if_neg h2,if_neg (by omega),AV.fz,if_neg];rintro⟨e2,_⟩;have:=z1 _ _ (zL h) (zJ hk) e2;exact e ((vW hn).1 (this.trans z6.symm))
 rw[yY (by omega)];simp
section
variable {P:Program} [Env P] {nt kk:Nat} {cd:Code} {Q:Exit->AS->Prop}
def MG.freeze {M:Nat} {ks:List Nat} {gs:Nat->List Prd} {L:Nat->Nat} {sl:List (Nat×AV)} (hn:ks.Nodup) (z6:∀t t',t∈ks->t'∈ks->L t=L t'->t=t') (z8:∀t∈ks,L t≠M)
  (za:∀t∈ks,sl.map (λp=>(p.1,p.2.fz (L t) 1 ((gs t).map encP)))=sl):∀(d k:Nat) (H:List AObj),k+d=ks.length->H[M]?=some (.mv (kvX ks gs L k))->(∀i t,k<=i->ks[i]?=some t->H[L t]?=some (.arr 70 1 ((gs t).map encP)))->
  (∀H',H'[M]?=some (.mv (kvX ks gs L ks.length))->H'.length=H.length->(∀j,j<H.length->j≠M->(∀t∈ks,j≠L t)->H'[j]? =H[j]?)->AWP P nt kk cd Q ⟨sl,H'⟩)->AWP P nt kk cd Q ⟨sl,H⟩
 |0,k,H,hd,hm,hl,h=>by
  have:k=ks.length:=by omega
  subst this;exact h H hm rfl λ_ _ _ _=>rfl
 |d+1,k,H,hd,hm,hl,h=>by
  have zb:k<ks.length:=by omega
  have hk:ks[k]?=some ks[k]:=zI zb;have z1:=zL zb;generalize ks[k]=t at *
  have zf:=hl k t (zR _) hk;have zg:=Qe hm;refine Ib (L t) zf M hm (Ne.symm (z8 t z1)) rfl ?_;rw[za t z1,AObj.fz,u19 hn z6 hk];refine MG.freeze hn z6 z8 za d (k+1) _ (by omega) (zK (by simpa using zg)) (λi u hi hu=>?_) λH' zh z7 zi=>h H' zh (by simpa using z7) λj hj zc zd=>?_
  ·have ze:=zJ hu;rw[zE (Ne.symm (z8 u ze)),zE (λe2=>?_)]
   ·exact hl i u (by omega) hu
   have e3:=z6 t u z1 ze e2;subst e3;obtain⟨h1,h2⟩:=zB.1 hk;obtain⟨h3,h4⟩:=zB.1 hu;have:=(vW hn).1 (h2.trans h4.symm);omega
  rw[zi j (by simpa using hj) zc zd,zE (Ne.symm zc),zE (Ne.symm (zd t z1))]
end
end
def M5{o:List Nat}{c:Nat}(h:c∈o):∃i,Fw o c=i/\o[i]?=some c/\∀j,j<i->o[j]? ≠some c:=by
 unfold Fw;cases hf:o.findIdx? λd=>decide (d=c)with
 |none=>rw[vR]at hf;have:=hf c h;simp at this
 |some i=>rw[List.findIdx?_eq_some_iff_getElem]at hf;obtain⟨h1,h2,h3⟩:=hf;refine⟨i,rfl,by rw[zI h1];simpa using h2,λj hj e=>?_⟩;obtain⟨hl,e2⟩:=zB.1 e;have:=h3 j hj;rw[e2]at this;simp at this
def x0l{o:List Nat}{c:Nat}(h:c∈o)(r:List Nat):Fw (o++r) c=Fw o c:=by
 obtain⟨i,e,h1,h2⟩:=M5 h;obtain⟨k,e',h3,h4⟩:=M5 (o:=o++r) (yV r h);rw[e,e'];have z1:=Eb h1;rcases Nat.lt_trichotomy i k with hl|hl|hl
 ·have:=h4 i hl;rw[zF z1]at this;exact absurd h1 this
 ·exact hl.symm
 rw[zF (by omega)]at h3;exact absurd h3 (h2 k hl)
def f01{o:List Nat}{c:Nat}(h:c∉o):Fw (o++[c]) c=o.length:=by
 obtain⟨k,e',h3,h4⟩:=M5 (o:=o++[c]) (c:=c) (by simp);rw[e'];have hk:=Eb h3;simp at hk;by_cases hl:k<o.length
 ·rw[zF hl]at h3;exact absurd (zJ h3) h
 omega
def g1i{o:List Nat}{c d:Nat}(h:c∈o):Fw (Dg o d) c=Fw o c:=by obtain⟨r,e,_⟩:=F3 o d;rw[e,x0l h]
def Hi{o:List Nat}{l:List Mv}{j:Nat}(h:j<l.length):Wh o (l.take (j+1))=Dg (Wh o (l.take j)) l[j].dst.toNat:=by unfold Wh;rw[zU h,wQ];rfl
def u0j{o:List Nat}{l:List Mv}{m:Mv}(h:m∈l):m.dst.toNat∈Wh o l:=by
 induction l generalizing o with
 |nil=>cases h
 |cons x l ih=>
  have pre:∀(l:List Mv) (o:List Nat) (c:Nat),c∈o->c∈Wh o l:=by
   intro l;induction l with
   |nil=>intro o c hc;exact hc
   |cons y l ih2=>intro o c hc;refine ih2 (Dg o y.dst.toNat) c ?_;obtain⟨r,e,_⟩:=F3 o y.dst.toNat;rw[e];exact yV _ hc
  rcases zX.1 h with rfl|h
  ·exact pre l _ _ (y0f _ _)
  exact ih h
def Dq(o:List Nat)(l:List Mv):∃r,Wh o l=o++r:=by
 induction l generalizing o with
 |nil=>exact⟨[],by simp[Wh]⟩
 |cons x l ih=>obtain⟨r,e⟩:=ih (Dg o x.dst.toNat);obtain⟨r',e',_⟩:=F3 o x.dst.toNat;refine⟨r'++r,?_⟩;have:Wh o (x::l)=Wh (Dg o x.dst.toNat) l:=rfl;rw[this,e,e',xQ]
def qMv(o:List Nat)(l:List Mv)(n j:Nat):List Mv:=(l.take j).map λm=>⟨n,(Fw (Wh o (l.take j)) m.dst.toNat:Nat),m.on⟩
def y0k(o:List Nat)(l:List Mv)(n:Nat):qMv o l n 0=[]:=by simp[qMv]
def c1l(o:List Nat)(l:List Mv)(n j:Nat):(qMv o l n j).length<=l.length:=by unfold qMv;simp;omega
def j1c(o:List Nat)(l:List Mv)(n:Nat){j:Nat}(h:j<l.length):
  qMv o l n (j+1)=qMv o l n j++[⟨n,(Fw (Dg (Wh o (l.take j)) l[j].dst.toNat) l[j].dst.toNat:Nat),l[j].on⟩]:=by
 unfold qMv;rw[Hi h,zU h,yR]
 congr 1
 refine y_ λm hm=>?_;rw[g1i (u0j hm)]
def y2u(a:Aut){o:List Nat}{n:Nat}{c:Nat}(h:o[n]?=some c):qMv o (Tz a c) n (Tz a c).length=mvN a (Wh o (Tz a c)) n:=by
 unfold qMv mvN;rw[yI];obtain⟨r,e⟩:=Dq o (Tz a c);have:(Wh o (Tz a c)).getD n 0=c:=by rw[e,yQ,zF (Eb h),h];rfl
 rw[this]
structure QI (a:Aut) (i:Nat) (o:List Nat):Prop where
 nd:o.Nodup
 cl:∀c∈o,Hy a c
 le:i<=o.length
 bfs:Yo a (a.fin.length+1 - i) i o=Yw a
 done:∀(j c:Nat),j<i->o[j]?=some c->∀m∈Tz a c,m.dst.toNat∈o
def QI.zero{a:Aut}(ha:Dfa a):QI a 0 [Wp a 0]:=
 ⟨by simp,λc hc=>by rw[zO.1 hc];exact Po ha ha.zero,by simp,rfl,λj c hj=>by omega⟩
def QI.len{a:Aut}(ha:Dfa a){i:Nat}{o:List Nat}(h:QI a i o):o.length<=a.fin.length:=Cb ha h.nd h.cl
def QI.step{a:Aut}(ha:Dfa a){i:Nat}{o:List Nat}(h:QI a i o){c:Nat}(hc:o[i]?=some c):QI a (i+1) (Wh o (Tz a c)):=by
 have hl:=h.len ha;have hi:=Eb hc;obtain⟨⟨r,h1,h2⟩,h3,h4⟩:=Yq (Tz a c) o h.nd;have z1:=h.cl c (zJ hc);refine⟨h3,λd hd=>?_,by rw[h1,zW];omega,?_,λj d hj hd m hm=>?_⟩
 ·rw[h1]at hd;rcases zT.1 hd with hd|hd
  ·exact h.cl d hd
  obtain⟨m,hm,e⟩:=h2 d hd;obtain⟨x,_,e2,_,e4,_⟩:=Yy ha z1 hm;rw[e,e2];simpa using e4
 ·have:=h.bfs;rw[show a.fin.length+1 - i=(a.fin.length+1 - (i+1))+1 by omega,Yo,hc]at this;exact this
 rw[h1,zF (by omega)]at hd;by_cases e:j=i
 ·subst e;rw[hc]at hd;cases hd;exact h4 m hm
 rw[h1];exact yV _ (h.done j d (by omega) hd m hm)
def QI.fin{a:Aut}(ha:Dfa a){i:Nat}{o:List Nat}(h:QI a i o)(hi:i=o.length):o=Yw a:=by have hl:=h.len ha;have:=h.bfs;rw[show a.fin.length+1 - i=(a.fin.length - i)+1 by omega,Yo,yY (by omega)]at this;exact this
def qM(a:Aut)(i:Nat)(o:List Nat):List Mv:=(yU i).flatMap (mvN a o)
def c0z(a:Aut)(o:List Nat):qM a 0 o=[]:=by simp[qM]
def z2s{a:Aut}{i:Nat}{o:List Nat}(h:QI a i o){c:Nat}(hc:o[i]?=some c):qM a (i+1) (Wh o (Tz a c))=qM a i o++qMv o (Tz a c) i (Tz a c).length:=by
 rw[y2u a hc];unfold qM;rw[wU,wJ]
 congr 1
 ·rw[uY,uY]
  congr 1
  refine y_ λj hj=>?_;have z1:=xJ.1 hj;have z6:j<o.length:=x_ z1 h.le;obtain⟨r,e⟩:=Dq o (Tz a c);have g1:(Wh o (Tz a c)).getD j 0=o.getD j 0:=by rw[e,yQ,yQ,zF z6]
  unfold mvN;rw[g1];refine y_ λm hm=>?_;have hg:o[j]?=some (o.getD j 0):=by simp[yQ,z6]
  rw[e,x0l (h.done j _ z1 hg m hm)]
 simp
def qF(a:Aut)(o:List Nat):List Bool:=o.map λc=>a.fin.getD (Tb a c) false
def w2t(a:Aut){o:List Nat}{i:Nat}{c:Nat}(l:List Mv)(h:o[i]?=some c):qF a ((Wh o l).take (i+1))=qF a (o.take i)++[a.fin.getD (Tb a c) false]:=by obtain⟨r,e⟩:=Dq o l;have hi:=Eb h;rw[e,List.take_append_of_le_length (by omega)];obtain⟨_,rfl⟩:=zB.1 h;rw[zU hi];unfold qF;rw[yR,xC,wD]
def Us(o:List Nat):Wh o []=o:=rfl
def u0t(o:List Nat)(l:List Mv){n:Nat}(h:l.length<=n):(Wh o l).length<=o.length+n:=by
 have key:∀(l:List Mv) (o:List Nat),(Wh o l).length<=o.length+l.length:=by
  intro l;induction l with
  |nil=>intro o;simp[Wh]
  |cons x l ih=>
   intro o;have h1:=ih (Dg o x.dst.toNat);have h2:(Dg o x.dst.toNat).length<=o.length+1:=by unfold Dg;split<;>simp
   have h3:Wh o (x::l)=Wh (Dg o x.dst.toNat) l:=rfl;rw[h3,yW];omega
 have:=key l o;omega
def u20(a:Aut):qF a []=[]:=rfl
def d1b(a:Aut)(o:List Nat):(qF a o).length=o.length:=by simp[qF]
def x2p{a:Aut}(ha:Dfa a){i:Nat}{o:List Nat}(h:QI a i o):(qM a i o).length<=600000:=by
 have hl:=h.len ha;have hf:=ha.ok.fin;have hm:=ha.ok.mvs;have key:∀j,j<=i->((yU j).flatMap (mvN a o)).length<=j * 2048:=by
  intro j;induction j with
  |zero=>intro _;simp
  |succ j ih=>
   intro hj;rw[wU,wJ,zW];have h1:=ih (by omega);have h2:(mvN a o j).length<=2048:=by
    have z1:j<o.length:=x_ hj h.le;have hc:=h.cl _ (zL z1);have e:o.getD j 0=o[j]:=by simp[yQ,z1]
    have h3:=X6 ha hc;have h4:(Wc a (Tb a o[j]:Nat)).length<=a.mv.length:=yX _ _;unfold mvN;rw[yO,e];omega
   simp only[List.flatMap_cons,List.flatMap_nil,xG];omega
 have:=key i (zR _);have:=h.le;unfold qM;omega
def y2m{a:Aut}(ha:Dfa a){i:Nat}{o:List Nat}(h:QI a i o)(hi:i=o.length):Q1 a=⟨a.types,qF a (o.take i),qM a i o⟩:=by have:=h.fin ha hi;rw[hi,yI];unfold Q1 Px qF qM;rw[<-this]
section
open Go Go.Proofs
def x1e(l:List Nat)(c:Nat):Nt (λm:Int=>m==(c:Int)) (T0 l)=match l.findIdx? λd=>decide (d=c)with|some i=>(i:Int)|none=> -1:=by
 have e:(T0 l).findIdx? (λm:Int=>m==(c:Int))=l.findIdx? λd=>decide (d=c):=by
  rw[tI]
  congr 1
  funext x;simp only[Function.comp];rw[wK];simp;omega
 unfold Nt;rw[e];cases l.findIdx? λd=>decide (d=c)<;>rfl
def k14{l:List Nat}{c:Nat}(h:c∈l):Nt (λm:Int=>m==(c:Int)) (T0 l)=(Fw l c:Nat):=by
 rw[x1e];unfold Fw;cases hf:l.findIdx? λd=>decide (d=c)with
 |none=>rw[vR]at hf;have:=hf c h;simp at this
 |some i=>rfl
end
section
open Go Go.Proofs Go.Maps Go.RowKit
def kvO(o:List Nat):List (AV×AV):=o.zipIdx.map λx=>(AV.i (x.1:Nat),AV.i (x.2:Nat))
def mpO(o:List Nat):AObj:= .mp (kvO o)
def M6{o:List Nat}{j:Nat}{p:AV×AV}(h:(kvO o)[j]?=some p):∃c,o[j]?=some c/\p=(AV.i (c:Nat),AV.i (j:Nat)):=by unfold kvO at h;rw[zS,tw]at h;obtain⟨x,hx,rfl⟩:=zP.1 h;obtain⟨c,hc,rfl⟩:=zP.1 hx;exact⟨c,hc,by simp⟩
def v1x(o:List Nat)(c:Nat):kvO (o++[c])=kvO o++[(AV.i (c:Nat),AV.i (o.length:Nat))]:=by unfold kvO;rw[List.zipIdx_append,yR];simp
def c1w{o:List Nat}{p:AV×AV}(h:p∈kvO o):∃c∈o,p.1=AV.i (c:Nat):=by obtain⟨j,hj⟩:=yH.1 h;obtain⟨c,hc,rfl⟩:=M6 hj;exact⟨c,zJ hc,rfl⟩
def y1g{o:List Nat}(hb:∀c∈o,c<=1000000):∀p∈kvO o,isKey prog 3 p.1:=λp hp=>by obtain⟨c,hc,e⟩:=c1w hp;rw[e];exact W2 ⟨by omega,by have:=hb c hc;omega⟩
section
variable {nt k:Nat} {S:AS} {ops:Array Oper} {o:Oper} {R:AS->Prop}
def q0l {wr:Bool} (hw:Qs ops S o=some true) (hd:Wm nt o=true) {x ix:Operand} (ho:o.op= .lookup 113 x ix true) {id:Nat} (hx:rho S.sl x=some (.mref id)) {c:Nat} (z6:rho S.sl ix=some (.i (c:Nat))) {l:List Nat} (z7:S.hp[id]?=some (mpO l)) (hn:l.Nodup) (hb:∀c∈l,c<=1000000) (hc:c<=1000000)
  (hR:R (S.putD o.dst (.tup [.i ((if c∈l then Fw l c else 0:Nat)),.bool (decide (c∈l))]))):Q9 prog nt k wr ops o S R:=by
 refine Tm tOk hw hd ho w2n rfl T3 R0 hx z6 z7 (W2 ⟨by omega,by omega⟩) (y1g hb) (z:= .i 0) rfl (λj p hp he=>?_) (λz8=>?_)
 ·obtain⟨c',z1,rfl⟩:=M6 hp;have za:c'=c:=by simp at he;omega
  subst za;have hm:=zJ z1;rw[if_pos hm,Z6 hn z1]at hR;simpa[hm]using hR
 have hm:c∉l:=λh=>by
  obtain⟨j,hj⟩:=yH.1 h;have zb:=Eb hj;have:(kvO l)[j]?=some (AV.i (c:Nat),AV.i (j:Nat)):=by unfold kvO;rw[zS,tw,hj];simp
  exact z8 _ (zJ this) rfl
 rw[if_neg hm]at hR;simpa[hm]using hR
def v00 (hw:Qs ops S o=some true) (hd:Wm nt o=true) {x ix y:Operand} (ho:o.op= .mapUpdate 113 x ix y) {id:Nat} (hx:rho S.sl x=some (.mref id)) {c:Nat} (z1:rho S.sl ix=some (.i (c:Nat))) {l:List Nat} (hy:rho S.sl y=some (.i (l.length:Nat))) (z6:S.hp[id]?=some (mpO l)) (hb:∀c∈l,c<=1000000) (hc:c<=1000000) (hn:c∉l)
  (hR:R (({ S with hp:=S.hp.set id (mpO (l++[c])) }:AS).putD o.dst (.tup []))):Q9 prog nt k true ops o S R:=by
 refine Ei tOk hw hd ho w2n rfl R0 hx z1 hy (by simp[AV.pure]) z6 (W2 ⟨by omega,by omega⟩) (y1g hb) (λj p hp he=>?_) (λza=>?_)
 ·obtain⟨c',z7,rfl⟩:=M6 hp;have z8:c'=c:=by simp at he;omega
  subst z8;exact absurd (zJ z7) hn
 have:mpO (l++[c])= .mp (kvO l++[(AV.i (c:Nat),AV.i (l.length:Nat))]):=by unfold mpO;rw[v1x]
 rw[this]at hR;exact hR
def v0d (hw:Qs ops S o=some true) (hd:Wm nt o=true) {x ix y:Operand} (ho:o.op= .insert 113 x ix y) {id:Nat} (hx:rho S.sl x=some (.mref id)) {c:Nat} (z1:rho S.sl ix=some (.i (c:Nat))) (hy:rho S.sl y=some (.i 0)) (z6:S.hp[id]?=some (.mp [])) (hc:c<=1000000)
  (hR:R (({ S with hp:=S.hp.set id (mpO [c]) }:AS).putD o.dst (.tup []))):Q9 prog nt k true ops o S R:=by
 refine Y2 tOk hw hd ho w2n rfl R0 hx z1 hy (by simp[AV.pure]) z6 (W2 ⟨by omega,by omega⟩) (λp hp=>by cases hp) (λj p hp he=>by cases hp) (λz7=>?_);exact hR
end
end
end Go.Abs
namespace Go.Proofs
open Go.Shelf
def Tryz.sortMv_ren:Go.Shelf.Ren:=⟨λ|6=>180|15=>199|14=>229|28=>244|29=>245|20=>271|21=>272|22=>273|23=>274|24=>275|25=>276|26=>277|27=>278|46=>309|47=>292|48=>293|49=>310|50=>311|57=>323|n=>n,λ|22=>23|24=>73|25=>238|3=>3|39=>189|0=>0|53=>255|55=>258|4=>4|46=>291|45=>290|50=>112|5=>5|9=>9|66=>327|70=>331|76=>349|77=>350|n=>n,λ|n=>n⟩
def Tryz.sortMv:Go.Proofs.SlLaysF0.n6 prog Tryz.sortMv_ren:={
 mixed:=by kernel_rfl
 f6:=⟨Tryz.f180.name,by decide,func180.trans (congrArg some (by kernel_rfl))⟩
 f14:=⟨Tryz.f229.name,by decide,func229.trans (congrArg some (by kernel_rfl))⟩
 f15:=func199.trans (congrArg some (by kernel_rfl))
 f20:=⟨Tryz.f271.name,by decide,func271.trans (congrArg some (by kernel_rfl))⟩
 f21:=⟨Tryz.f272.name,by decide,func272.trans (congrArg some (by kernel_rfl))⟩
 f22:=⟨Tryz.f273.name,by decide,func273.trans (congrArg some (by kernel_rfl))⟩
 f23:=⟨Tryz.f274.name,by decide,func274.trans (congrArg some (by kernel_rfl))⟩
 f24:=⟨Tryz.f275.name,by decide,func275.trans (congrArg some (by kernel_rfl))⟩
 f25:=⟨Tryz.f276.name,by decide,func276.trans (congrArg some (by kernel_rfl))⟩
 f26:=⟨Tryz.f277.name,by decide,func277.trans (congrArg some (by kernel_rfl))⟩
 f27:=⟨Tryz.f278.name,by decide,func278.trans (congrArg some (by kernel_rfl))⟩
 f28:=func244.trans (congrArg some (by kernel_rfl))
 f29:=func245.trans (congrArg some (by kernel_rfl))
 f46:=⟨Tryz.f309.name,by decide,func309.trans (congrArg some (by kernel_rfl))⟩
 f47:=func292.trans (congrArg some (by kernel_rfl))
 f48:=func293.trans (congrArg some (by kernel_rfl))
 f49:=⟨Tryz.f310.name,by decide,func310.trans (congrArg some (by kernel_rfl))⟩
 f50:=⟨Tryz.f311.name,by decide,func311.trans (congrArg some (by kernel_rfl))⟩
 f57:=⟨Tryz.f323.name,by decide,func323.trans (congrArg some (by kernel_rfl))⟩
 t0:=underlying0
 a0:=isAgg0
 z0:=sizeOf0
 v0:=zeroValue0
 t3:=underlying3
 a3:=isAgg3
 z3:=sizeOf3
 v3:=zeroValue3
 t4:=underlying4
 a4:=isAgg4
 z4:=sizeOf4
 v4:=zeroValue4
 t5:=underlying5
 a5:=isAgg5
 z5:=sizeOf5
 v5:=zeroValue5
 t9:=underlying9
 a9:=isAgg9
 z9:=sizeOf9
 v9:=zeroValue9
 t22:=underlying23
 a22:=isAgg23
 z22:=sizeOf23
 v22:=zeroValue23
 t25:=underlying238
 a25:=isAgg238
 z25:=sizeOf238
 v25:=zeroValue238
 t39:=underlying189
 a39:=isAgg189
 z39:=sizeOf189
 v39:=zeroValue189
 t45:=underlying290
 a45:=isAgg290
 z45:=sizeOf290
 v45:=zeroValue290
 t46:=underlying291
 a46:=isAgg291
 z46:=sizeOf291
 v46:=zeroValue291
 t50:=underlying112
 a50:=isAgg112
 z50:=sizeOf112
 v50:=zeroValue112
 t53:=underlying255
 a53:=isAgg255
 z53:=sizeOf255
 v53:=zeroValue255
 t55:=underlying258
 a55:=isAgg258
 z55:=sizeOf258
 v55:=zeroValue258
 t66:=underlying327
 a66:=isAgg327
 z66:=sizeOf327
 v66:=zeroValue327
 t70:=underlying331
 a70:=isAgg331
 z70:=sizeOf331
 v70:=zeroValue331
 t76:=underlying349
 a76:=isAgg349
 z76:=sizeOf349
 v76:=zeroValue349
 t77:=underlying350
 a77:=isAgg350
 z77:=sizeOf350
 v77:=zeroValue350 }
end Go.Proofs
namespace Go.Abs
section
open Go Go.Proofs Go.RowKit Go.Shelf Go.Lib Go.Sort
def ltM(m k:Mv):Bool:=Bs (kyM m) (kyM k)
def k2o(m k:Mv):Int:=if ltM m k=true then -1 else 1
def gdM(T:Nat)(m:Mv):Prop:=PWf T m.on/\Wj m.on=false/\∀s∈m.on,s.length<=1000000000
attribute [local irreducible] Ew Qx Ql Kx
def y2s(T:Nat)(hT:T<=16)(m k:Mv)(hm:gdM T m)(hk:gdM T k):PC prog 181 [encMv m,encMv k] (λr=>r= .i (k2o m k)):=by
 refine pcB func181 results181 ntmps181 ?_;simp only[Qf];simp only[encMv];have h1:=w0o hm.1;have h2:=w0o hk.1;rw[hm.2.1]at h1;rw[hk.2.1]at h2;have h3:=u2j m.on k.on;have hR:k2o m k=if Kx (Ql m.on) (Ql k.on)=true then -1 else 1:=by rw[h3];rfl
 rw[hR];repeat(refine s_ ?_;simp)
 refine pcL (Sa T m.on m.on hm.1 hm.1 hm.2.2 hm.2.2 (by omega)) ?_;simp;rw[h1];simp[Jk];repeat(refine s_ ?_;simp)
 refine pcL (Sa T k.on k.on hk.1 hk.1 hk.2.2 hk.2.2 (by omega)) ?_;simp;rw[h2];simp[Jk];repeat(refine s_ ?_;simp)
 refine pcL (u0p (Ql m.on) (Ql k.on)) ?_;simp;cases hb:Kx (Ql m.on) (Ql k.on)with
 |true=>refine Qr rfl ?_;repeat ((refine s_ ?_;simp))
 |false=>refine Qr rfl ?_;repeat(refine s_ ?_;simp)
def j0o{w:World}{I:Nat->Prop}{v:Value}{k:IntKind}{n:Int}(h:PVR w I v (.int k n)):v.oneCell'=true:=by cases h;rfl
def x12{w:World}{I:Nat->Prop}{v:Value}{xs:List AV}(h:PVR w I v (.list xs)):v.oneCell'=true:=by cases h;rfl
def GdE(T:Nat)(w:World)(I:Nat->Prop)(x:List Value×Mv):Prop:=x.1.length=3/\(∀v∈x.1,v.oneCell'=true)/\gdM T x.2/\∀(j:Nat) (y:AV),(encMv x.2).cells[j]?=some y->∃v,x.1[j]?=some v/\PVR w I v y
abbrev MvE (T:Nat) (w:World) (I:Nat->Prop):={ x:List Value×Mv // GdE T w I x }
def j0j{T:Nat}{w:World}{I:Nat->Prop}(x:MvE T w I):List Value:=x.1.1
def v2w{T:Nat}{w:World}{I:Nat->Prop}(x y:MvE T w I):Int:=k2o x.1.2 y.1.2
def ltE{T:Nat}{w:World}{I:Nat->Prop}(x y:MvE T w I):ltOf v2w x y=ltM x.1.2 y.1.2:=by unfold ltOf v2w k2o;cases ltM x.1.2 y.1.2<;>rfl
def g2w{T:Nat}{w:World}{I:Nat->Prop}:SWO (ltOf (v2w (T:=T) (w:=w) (I:=I))) where
 irrefl x:=by rw[ltE,<-uz];intro h;exact Ik.irr ((R7 _ _).1 h)
 trans x y z h1 h2:=by rw[ltE]at *;exact(R7 _ _).2 (((R7 _ _).1 h1).trans ((R7 _ _).1 h2))
 ntrans x y z h1 h2:=by
  rw[ltE]at *;rw[<-uz]at *;intro h
  have h3:=(R7 _ _).1 h;have h4:¬Ik (kyM x.1.2).1 (kyM x.1.2).2 (kyM y.1.2).1 (kyM y.1.2).2:=λk=>h1 ((R7 _ _).2 k);have h5:¬Ik (kyM y.1.2).1 (kyM y.1.2).2 (kyM z.1.2).1 (kyM z.1.2).2:=λk=>h2 ((R7 _ _).2 k);unfold Ik at *;omega
def j1g(m:Mv):(encMv m).cells=[.i m.src,.i m.dst,.list (m.on.map encL)]:=rfl
def Ge{T:Nat}{w:World}{I:Nat->Prop}{l:List Mv}{F:Array Value}(hR:RowW w I 3 (l.map encMv) F)(hg:∀m∈l,gdM T m){i:Nat}(hi:i<l.length):GdE T w I ([F[i * 3]!,F[i * 3+1]!,F[i * 3+2]!],l[i]):=by
 have hx:(l.map encMv)[i]?=some (encMv l[i]):=by simp[hi]
 have c0:=hR.cell i _ hx 0 _ rfl;have c1:=hR.cell i _ hx 1 _ rfl;have c2:=hR.cell i _ hx 2 _ rfl;rw[Nat.add_zero]at c0;refine⟨rfl,λv hv=>?_,hg _ (zL hi),λj y hy=>?_⟩
 ·simp only[zX,List.not_mem_nil,or_false]at hv;rcases hv with rfl|rfl|rfl
  ·exact j0o c0
  ·exact j0o c1
  exact x12 c2
 rw[j1g]at hy
 match j,hy with
 |0,hy=>simp at hy;subst hy;exact⟨_,rfl,c0⟩
 |1,hy=>simp at hy;subst hy;exact⟨_,rfl,c1⟩
 |2,hy=>simp at hy;subst hy;exact⟨_,rfl,c2⟩
def j02(T:Nat)(hT:T<=16)(H:List AObj)(p:Nat)(l:List Mv)(hp:H[p]?=some (.arr 73 3 (l.map encMv)))(hl:l.length<=1000000)(hg:∀m∈l,gdM T m):
  FC prog 180 [.sl p 3 0 l.length,.fn (.func 181) [] []] H
   (λr H'=>r= .tup []/\∃l':List Mv,l'.Perm l/\l'.Pairwise (λx y=>ltM y x=false)/\H'=H.set p (.arr 73 3 (l'.map encMv))):=by
 refine(q0r (xs:=l.map encMv) (R3 func180 rfl rfl) (by simp) hp [.func (.func 181) #[] #[]] (λw I m vs a b=>H9 _ w I m _ vs a b) (λzc=>∃l':List Mv,l'.Perm l/\l'.Pairwise (λx y=>ltM y x=false)/\zc=l'.map encMv) ?_ ?_).mono ?_
 ·intro w I b cap F hE hI zg hR hH hb hc;have zh:F.size=l.length * 3:=by have:=hR.size;simpa using this
  by_cases z6:l=[]
  ·subst z6;refine Calls.mono (AnyF.slices_SortFunc_none Tryz.sortMv (some ⟨b,0,none⟩) cap _ w) ?_;rintro e w' ⟨rfl,rfl⟩;refine⟨rfl,[],F,0,#[],⟨[],.refl _,.nil,rfl⟩,rfl,hR,?_⟩;rw[grow_empty];exact(putRow_self id w' b 0 F hH).symm
  have z8:0<l.length:=List.length_pos_iff.2 z6;have eg:∀args w,(callFunc 181 args).run prog w= .ok (.enter 181 args) w:=enters_of func181 (by kernel_rfl) rfl;let _:Inhabited (MvE T w I):=⟨⟨_,Ge hR hg z8⟩⟩
  obtain⟨dl,za⟩:∃dl:List (MvE T w I),dl=List.ofFn λi:Fin l.length=>(⟨_,Ge hR hg i.2⟩:MvE T w I):=⟨_,rfl⟩
  have z7:dl.length=l.length:=by rw[za];simp
  have zd:∀i (h:i<l.length),dl[i]?=some ⟨_,Ge hR hg h⟩:=λi h=>by rw[za];simp[h]
  have zi:dl.map (λx=>x.1.2)=l:=by
   refine xL λi=>?_;rw[zS];by_cases h:i<l.length
   ·rw[zd i h,zI h];rfl
   rw[yY (by omega),yY (by omega)];rfl
  clear za;have zj:flatK j0j 3 dl.toArray=F:=by
   refine ext_get! (by simp[z7,zh]) λt ht=>?_;have zk:t<dl.length * 3:=by simpa using ht
   rw[get_flatK _ _ _ _ (by simpa using zk)];have hi:t / 3<l.length:=by omega
   have e1:dl.toArray[t / 3]! =⟨_,Ge hR hg hi⟩:=by rw[getElem!_pos dl.toArray _ (by simp;omega)];have:=zd _ hi;obtain⟨h1,h2⟩:=zB.1 this;simpa using h2
   rw[e1];simp only[j0j];have hm:t % 3=0\/t % 3=1\/t % 3=2:=by omega
   rcases hm with h|h|h<;>rw[h]
   ·have:t / 3 * 3=t:=by omega
    simp[this]
   ·have:t / 3 * 3+1=t:=by omega
    simp[this]
   have:t / 3 * 3+2=t:=by omega
   simp[this]
  have zl:HoldsK j0j 3 w b 0 dl.toArray:=by unfold HoldsK;rw[zj];exact hH
  have zb:CmpLays prog 181 #[] j0j 3 (v2w (T:=T) (w:=w) (I:=I)) b 0 dl.toArray.size w:=λq os dk hs x y=>by
   have hW:∀c,I c->(sortWorldK j0j 3 w b 0 q dk os).heap[c]? =w.heap[c]? :=λc ze=>by have zm:=hI c ze;have zn:b≠c:=λe=>zg (e▸ze);simp only[sortWorldK,grow,putRowK,putRow,mapBlock,Sort.ahead];rw[Array.getElem?_append_left (by simpa using zm),Array.getElem?_modify,if_neg zn]
   have zf:∀z:MvE T w I,PVR w I (.agg (j0j z).toArray) (encMv z.1.2):=λz=>by
    refine .agg _ _ (by simp[j0j,z.2.1]) λi v x' hv z1=>?_;obtain⟨v',h1,h2⟩:=z.2.2.2.2 i x' z1;have:v=v':=by simp only[j0j,List.getElem?_toArray]at hv;rw[hv]at h1;exact Option.some.inj h1
    rw[this];exact h2
   refine(y2s T hT x.1.2 y.1.2 x.2.2.2.1 y.2.2.2.1).laid hE hI hW (by simp) λi v x' hv z1=>?_
   match i,hv,z1 with
   |0,hv,z1=>simp at hv z1;subst hv z1;exact zf x
   |1,hv,z1=>simp at hv z1;subst hv z1;exact zf y
  have:=AnyQ.slices_SortFunc Tryz.sortMv 3 isAgg73 sizeOf73 j0j (λx=>x.2.1) (λx v hv=>x.2.2.1 v hv) v2w g2w 181 #[] b 0 cap dl.toArray w eg zb zl hb (by simp;omega);rw[show(dl.toArray).size=l.length by simp[z7]]at this;refine Calls.mono this ?_;rintro e w' ⟨rfl,d',n,os,h1,h2,rfl⟩;obtain⟨s1,_,s3⟩:=h1;have hs:d'.toList.length=l.length:=by simpa[z7]using s1
  refine⟨rfl,(d'.toList.map (λx=>x.1.2)).map encMv,flatK j0j 3 d',n,os,⟨d'.toList.map (λx=>x.1.2),?_,?_,rfl⟩,by simp[hs],⟨by simp,λx hx=>?_,λi x hx j y hy=>?_⟩,rfl⟩
  ·rw[show d'.extract 0 l.length=d' by simp[<-hs],show dl.toArray.extract 0 l.length=dl.toArray by simp[<-z7]]at s3;have:=(s3:d'.toList.Perm dl).map (λx=>x.1.2)
   rwa [zi]at this
  ·refine xM.2 (yL.2 λi j hi hj zo=>?_);have:=h2 i j (xI _) zo (by omega);rw[ltE,getElem!_pos d' i (by simpa using hi),getElem!_pos d' j (by simpa using hj)]at this;simpa using this
  ·obtain⟨z,_,rfl⟩:=zQ.1 hx;rfl
  rw[zS,zS]at hx;obtain⟨z0,zp,rfl⟩:=zP.1 hx;obtain⟨z,hz,rfl⟩:=zP.1 zp;obtain⟨hi,rfl⟩:=zB.1 hz;have hj:j<3:=(zB.1 hy).1;have zq:i<d'.size:=by simpa using hi
  rw[get_flatK _ _ _ _ (by omega)];rw[show(i * 3+j) / 3=i by omega,show(i * 3+j) % 3=j by omega];rw[getElem!_pos d' i zq];obtain⟨v,h1,h2⟩:=d'[i].2.2.2.2 j y (by simpa using hy);have:(j0j d'[i])[j]! =v:=by unfold j0j;rw[List.getElem!_eq_getElem?_getD,h1];rfl
  rw[this];exact h2
 ·rintro h;have z6:l=[]:=by
   cases l with
   |nil=>rfl
   |cons x r=>simp at h
  subst z6;exact⟨⟨[],.refl _,.nil,rfl⟩,λw=>AnyF.slices_SortFunc_none Tryz.sortMv none 0 _ w⟩
 rintro r H' ⟨rfl,zc,⟨l',h1,h2,rfl⟩,rfl⟩;exact⟨rfl,l',h1,h2,rfl⟩
end
def x2e{T B:Nat}{l:List Prd}(h:∀i,(Qv l i).length<=B):∀s∈Ux T l,s.length<=B:=λs hs=>by unfold Ux at hs;obtain⟨i,_,rfl⟩:=zQ.1 hs;exact yP (k18 _) (h i)
section
open Go Go.Proofs Go.Maps Go.RowKit
def x0d{l:List Nat}{i:Nat}(h:i<l.length):l.getD i 0=l[i]:=by simp[yQ,h]
attribute [local irreducible] Wc Ew Yp Ux k16 Cp Ly kvG
def Lb{α:Type}:∀(l:List α) (i:Nat) (x:α),l[i]?=some x->l.Perm (x::l.eraseIdx i)
 |[],i,x,h=>by simp at h
 |y::l,0,x,h=>by simp at h;subst h;simp
 |y::l,i+1,x,h=>by simp only[List.getElem?_cons_succ]at h;exact((Lb l i x h).cons y).trans (List.Perm.swap x y _)
def z0r{a:Aut}(ha:OkA a)(cl:List Nat)(s:Int)(t:Nat):(Pl a cl s t).length<=2048:=by unfold Pl;rw[yO];exact yP (yX _ _) (yP (F8 a s) ha.mvs)
def v14(ks:List Nat)(t:Nat):(Kj ks t).length<=ks.length+1:=by
 unfold Kj;split
 ·omega
 simp
def f1u(cl:List Nat):∀(l:List Mv) (ks:List Nat),(l.foldl (λks m=>Kj ks (clD cl m)) ks).length<=ks.length+l.length
 |[],ks=>by simp
 |m::l,ks=>by have h1:=f1u cl l (Kj ks (clD cl m));have h2:=v14 ks (clD cl m);simp only[xU,yW];omega
def Mk{a:Aut}(ha:OkA a)(cl:List Nat)(s:Int)(t i:Nat):(Qv (Pl a cl s t) i).length<=1000000:=by
 have h1:∀p∈Pl a cl s t,PCk a.types.toNat p:=λp hp=>by obtain⟨m,hm,rfl⟩:=zQ.1 hp;exact(ha.mv m (Rl.1 (xH.1 hm).1).1).on
 have h2:=z0r ha cl s t;have:=I8 h1 i;omega
def y1i{x y:Mv}(h:ltM y x=false)(z1:kyM x≠kyM y):ltG kyM x y:=by
 unfold ltG;have h1:¬Ik (kyM y).1 (kyM y).2 (kyM x).1 (kyM x).2:=λk=>by have:ltM y x=true:=(R7 _ _).2 k;rw[h]at this;cases this
 have h2:¬((kyM x).1=(kyM y).1/\(kyM x).2=(kyM y).2):=λk=>z1 (vY k.1 k.2);unfold Ik at *;omega
def q1b(a:Aut)(ha:Dfa a)(cl:List Nat)(x6:cl.length=a.fin.length)(y3:∀c∈cl,c<=1000000)(s:Int)(hs:inS a s):PC prog 119 [T1 a,LI (T0 cl),.i s] (λr=>r= .list ((k16 a cl s).map encMv)):=by
 refine pcB func119 results119 ntmps119 ?_;simp only[Qf];simp only[T1,Wl];have yi:=ha.ok.fin;have x7:=F8 a s;have x8:=ha.ok.mvs;have y4:=λm (hm:m∈Wc a s)=>ha.ok.mv m (Rl.1 hm).1;have zo:=Cv hs;have x9:=Pu hs;have yj:=hs.1;have yk:=hs.2;have yl:(Yp a).length=a.fin.length:=by unfold Yp;simp
 simp only[Ys]at zo;have zu:∀hh,(Yp a)[s.toNat]'hh= .list ((Wc a s).map encMv):=λhh=>by rw[zI hh]at zo;exact Option.some.inj zo
 repeat(refine s_ ?_;simp)
 refine Wx rfl rfl rfl ?_;simp;repeat(refine s_ ?_;simp[zo,zu,yj,yk,yl])
 refine x1y 1 rfl ?_;simp;obtain⟨K,hK⟩:∃K,K=[AObj.vars [.i a.types,.list (a.fin.map .bool),.list (a.mv.map encMv),.list (Yp a)]]:=⟨_,rfl⟩
 have ym:K[0]?=some (.vars [.i a.types,.list (a.fin.map .bool),.list (a.mv.map encMv),.list (Yp a)]):=by rw[hK];rfl
 refine Q4 λZ hZ=>?_;have zG:MG K 1 (Ly a cl s 0) (Cp a cl s 0) (λ_=>0) Z:=by rw[g0l];refine⟨by rw[hZ];unfold kvG;rfl,by simp,by simp,by simp,by rw[hK];simp,by simp,λj hj=>?_⟩;rw[hK]at hj;simp at hj;subst hj;rw[hZ,hK];rfl
 clear hZ;refine Qj (Qc (sl':=[(1,LI (T0 cl)),(3,.vptr 0 0),(6,.nils),(7,.mref 1),(18,.list ((Wc a s).map encMv)),(19,.i (Wc a s).length),(20,.i (0:Nat))]) ?_ (by simp));refine Qi (P:=prog) (F:=λ(u:Nat×(Nat->Nat)×List AObj)=>⟨[(1,LI (T0 cl)),(3,.vptr 0 0),(6,.nils),(7,.mref 1),(18,.list ((Wc a s).map encMv)),(19,.i (Wc a s).length),(20,.i u.1)],u.2.2⟩)
  (λu=>u.1<=(Wc a s).length/\MG K 1 (Ly a cl s u.1) (Cp a cl s u.1) u.2.1 u.2.2) (λu=>(Wc a s).length - u.1) ?_ (0,λ_=>0,Z) ⟨xI _,zG⟩
 clear zG;clear Z;rintro⟨j,L,G⟩ ⟨hj,gG⟩ ih;simp only at hj gG ih |-;have za:=q2o a cl s j;have zp:∀t∈Ly a cl s j,t<=1000000:=λt ht=>by
  obtain⟨m,hm,rfl⟩:=Xz.1 ht;unfold clD;have:=xX hm;by_cases h:m.dst.toNat<cl.length
  ·rw[x0d h];exact y3 _ (zL h)
  simp[yQ,h]
 have yn:=λt (h:t∉Ly a cl s j)=>u1k h;repeat(refine s_ ?_;simp)
 refine Qb rfl (λzv=>?_) (λyo=>?_)
 ·have z7:j<(Wc a s).length:=by simpa using zv
  have hw:=wz j (by omega);have zh:=j0x a cl s z7;have zq:=w1i a cl s z7;have y5:=y4 _ (zL z7);have y6:∀t,(Cp a cl s j t).length<=j:=λt=>by unfold Cp;rw[yO];refine yP (yX _ _) ?_;rw[xV];omega
  have zf:=λL' G'=>ih (j+1,L',G');simp only[zh,zq]at zf;clear zh zq;have y7:((Wc a s).map encMv)[j]?=some (encMv (Wc a s)[j]):=by simp[z7]
  have y8:∀hh,((Wc a s).map encMv)[j]'hh=encMv (Wc a s)[j]:=λhh=>by simp
  generalize (Wc a s)[j]=m at *;generalize Ly a cl s j=ks at *;generalize Cp a cl s j=gs at *;simp only[encMv]at y7 y8
  repeat(refine s_ ?_;simp[y7,y8,z7])
  obtain⟨d,hd⟩:∃d:Nat,m.dst=d:=⟨m.dst.toNat,by have:=y5.dst.1;omega⟩
  have z8:d<cl.length:=by have:=y5.dst.2;omega
  have zw:clD cl m=cl[d]:=by unfold clD;rw[hd];exact x0d z8
  have zr:clD cl m<=1000000:=by rw[zw];exact y3 _ (zL z8)
  have yp:(T0 cl)[d]?=some ((clD cl m:Nat):Int):=by rw[zw];simp[z8]
  have yq:∀hh,(T0 cl)[d]'hh=((clD cl m:Nat):Int):=λhh=>(zY hh).2 yp;rw[hd]at *;refine Q4 λY hY=>?_
  have yG:MG K 1 ks gs L Y:=by rw[hY];exact gG.grow _
  have yx:Y[G.length]?=some (.vars [.i m.src,.i d,.list (m.on.map encL)]):=by rw[hY,zH (by simp)];simp
  clear hY gG;generalize G.length=x at *;clear G
  have xa:=y6 (clD cl m);have zx:=yn (clD cl m);have yM:=yG.map;have zi:=λnp H'=>yG.put (t:=clD cl m) (p:=m.on) (np:=np) (H':=H');have yr:=yG.leaf (clD cl m);have zy:=yG.ne (clD cl m);generalize clD cl m=t at *
  have zb:cl[d]=t:=zw.symm;have zc:∀E,(Y++E)[x]?=some (.vars [.i m.src,.i d,.list (m.on.map encL)]):=λE=>Qa yx E;have zd:∀E hh,(Y++E)[x]'hh= .vars [.i m.src,.i d,.list (m.on.map encL)]:=λE hh=>(zY hh).2 (zc E);by_cases htk:t∈ks
  ·have ze:=yr htk;have y9:=zy htk;have yt:L t≠x:=λe=>by rw[e,yx]at ze;simp at ze
   have ya:=Qe ze;have z6:((gs t).map encP).length=(gs t).length:=by simp
   generalize yu:(gs t).map encP=ge at *
   have zt:∀E,(Y.set (L t) .dead++E)[x]?=some (.vars [.i m.src,.i d,.list (m.on.map encL)]):=λE=>Qa (Qd yt yx _) E;have zz:∀E hh,(Y.set (L t) .dead++E)[x]'hh= .vars [.i m.src,.i d,.list (m.on.map encL)]:=λE hh=>(zY hh).2 (zt E);refine Uk (P:=prog) tOk mixed [16,17] (.val 0 (.val 1 (.val 2 (.val 6 (.val 7 (.val 8 (.val 9 (.val 10 (.val 11 (.val 13 (.val 14 (.three 3 (.val 4 (.three 5 (.two 12 (.one 15 (.one 16 (.one 17 (.done)))) 15 (.one 12 (.one 16 (.one 17 (.done))))) 12 (.two 5 (.one 15 (.one 16 (.one 17 (.done)))) 15 (.two 5 (.one 16 (.one 17 (.done))) 16 (.val 5 (.one 17 (.done))))) 15 (.two 5 (.one 12 (.one 16 (.one 17 (.done)))) 12 (.two 5 (.one 16 (.one 17 (.done))) 16 (.val 5 (.one 17 (.done))))))) 12 (.two 3 (.val 4 (.two 5 (.one 15 (.one 16 (.one 17 (.done)))) 15 (.two 5 (.one 16 (.one 17 (.done))) 16 (.val 5 (.one 17 (.done)))))) 15 (.two 3 (.val 4 (.two 5 (.one 16 (.one 17 (.done))) 16 (.val 5 (.one 17 (.done))))) 16 (.val 3 (.val 4 (.val 5 (.one 17 (.done))))))) 15 (.two 3 (.val 4 (.two 5 (.one 12 (.one 16 (.one 17 (.done)))) 12 (.two 5 (.one 16 (.one 17 (.done))) 16 (.val 5 (.one 17 (.done)))))) 12 (.two 3 (.val 4 (.two 5 (.one 16 (.one 17 (.done))) 16 (.val 5 (.one 17 (.done))))) 16 (.val 3 (.val 4 (.val 5 (.one 17 (.done))))))))))))))))))) (λS'=>∃np,MG K 1 (Kj ks t) (λu=>if u=t then gs t++[m.on]else gs u) (λu=>if u=t then np else L u) S'.hp/\look S'.sl 1=some (LI (T0 cl))/\look S'.sl 3=some (.vptr 0 0)/\look S'.sl 6=some .nils/\look S'.sl 7=some (.mref 1)/\look S'.sl 18=some (.list ((Wc a s).map encMv))/\look S'.sl 19=some (.i (Wc a s).length)/\look S'.sl 20=some (.i j)) rfl (by kernel_rfl) ?_ ?_
   ·simp[yx,zc,zd,zb,z8]
    repeat' (first
     |refine And.intro ?_ ?_
     |(refine Jl rfl rfl rfl rfl rfl (by first|exact yM|exact Qa yM _) zp zr ?_;rw[if_pos htk];simp[yx,zc,zd,zb,z8])
     |(refine apS T87 T70 ?_;simp[Qa ze,Qh ze,z6,yx,zc,zd,zt,zz,zb,z8];refine⟨by simp[Wg,z6]<;>omega,?_⟩;simp[zt,zz,zb,z8])
     |(refine apS T87 T70 ?_;simp[Qa ze,Qh ze,z6,yx,zc,zd,zt,zz,zb,z8];refine⟨by simp[Wg,z6]<;>omega,?_⟩))
    all_goals
     refine Ls rfl rfl rfl rfl rfl (np:=Y.length+1) (n:=(gs t).length+1) rfl (ks:=ks) (gs:=gs) (L:=L) (Qa (Qd y9 yM _) _) zp zr za zx m.on rfl ?_;simp;refine⟨Y.length+1,zi (Y.length+1) _ (by omega) (Qg (Qa (Qd y9 yM _) _) _) ?_ ?_⟩
     ·rw[zE (by have:=Qe yM;omega),zH (by simp),yR,yu];simp
     intro jj h1 h2 h3;rw[zE (Ne.symm h2),zF (by simpa using h1),zE (λe=>h3 htk e.symm)]
   rintro⟨sl,E⟩ ⟨np,hE,s1,s3,s6,s7,s18,s19,s20⟩;simp only at hE s1 s3 s6 s7 s18 s19 s20;simp;refine Qn (sl':=[(1,LI (T0 cl)),(3,.vptr 0 0),(6,.nils),(7,.mref 1),(18,.list ((Wc a s).map encMv)),(19,.i (Wc a s).length),(20,.i j)]) ?_ (by simp[s1,s3,s6,s7,s18,s19,s20]);repeat(refine s_ ?_;simp[hw])
   refine Qc (sl':=[(1,LI (T0 cl)),(3,.vptr 0 0),(6,.nils),(7,.mref 1),(18,.list ((Wc a s).map encMv)),(19,.i (Wc a s).length),(20,.i (j+1:Nat))]) ?_ (by simp);exact zf _ E ⟨by omega,hE⟩ (by omega)
  have yb:=zx htk;have z6:(gs t).length=0:=by rw[yb];rfl
  refine Uk (P:=prog) tOk mixed [16,17] (.val 0 (.val 1 (.val 2 (.val 6 (.val 7 (.val 8 (.val 9 (.val 10 (.val 11 (.val 13 (.val 14 (.three 3 (.val 4 (.three 5 (.two 12 (.one 15 (.one 16 (.one 17 (.done)))) 15 (.one 12 (.one 16 (.one 17 (.done))))) 12 (.two 5 (.one 15 (.one 16 (.one 17 (.done)))) 15 (.two 5 (.one 16 (.one 17 (.done))) 16 (.val 5 (.one 17 (.done))))) 15 (.two 5 (.one 12 (.one 16 (.one 17 (.done)))) 12 (.two 5 (.one 16 (.one 17 (.done))) 16 (.val 5 (.one 17 (.done))))))) 12 (.two 3 (.val 4 (.two 5 (.one 15 (.one 16 (.one 17 (.done)))) 15 (.two 5 (.one 16 (.one 17 (.done))) 16 (.val 5 (.one 17 (.done)))))) 15 (.two 3 (.val 4 (.two 5 (.one 16 (.one 17 (.done))) 16 (.val 5 (.one 17 (.done))))) 16 (.val 3 (.val 4 (.val 5 (.one 17 (.done))))))) 15 (.two 3 (.val 4 (.two 5 (.one 12 (.one 16 (.one 17 (.done)))) 12 (.two 5 (.one 16 (.one 17 (.done))) 16 (.val 5 (.one 17 (.done)))))) 12 (.two 3 (.val 4 (.two 5 (.one 16 (.one 17 (.done))) 16 (.val 5 (.one 17 (.done))))) 16 (.val 3 (.val 4 (.val 5 (.one 17 (.done))))))))))))))))))) (λS'=>∃np,MG K 1 (Kj ks t) (λu=>if u=t then gs t++[m.on]else gs u) (λu=>if u=t then np else L u) S'.hp/\look S'.sl 1=some (LI (T0 cl))/\look S'.sl 3=some (.vptr 0 0)/\look S'.sl 6=some .nils/\look S'.sl 7=some (.mref 1)/\look S'.sl 18=some (.list ((Wc a s).map encMv))/\look S'.sl 19=some (.i (Wc a s).length)/\look S'.sl 20=some (.i j)) rfl (by kernel_rfl) ?_ ?_
  ·simp[yx,zc,zd,zb,z8]
   repeat' (first
    |refine And.intro ?_ ?_
    |(refine Jl rfl rfl rfl rfl rfl (by first|exact yM|exact Qa yM _) zp zr ?_;rw[if_neg htk];simp[yx,zc,zd,zb,z8])
    |(refine apS T87 T70 ?_;simp[yx,zc,zd,zb,z8];refine⟨by simp[Wg]<;>omega,?_⟩))
   all_goals
    refine Ls rfl rfl rfl rfl rfl (np:=Y.length+1) (n:=1) rfl (ks:=ks) (gs:=gs) (L:=L) (Qa yM _) zp zr za zx m.on (by rw[z6]) ?_;simp;refine⟨Y.length+1,zi (Y.length+1) _ (by omega) (Qg (Qa yM _) _) ?_ ?_⟩
    ·rw[zE (by have:=Qe yM;omega),zH (by simp),yR,yb];simp
    intro jj h1 h2 h3;rw[zE (Ne.symm h2),zF h1]
  rintro⟨sl,E⟩ ⟨np,hE,s1,s3,s6,s7,s18,s19,s20⟩;simp only at hE s1 s3 s6 s7 s18 s19 s20;simp;refine Qn (sl':=[(1,LI (T0 cl)),(3,.vptr 0 0),(6,.nils),(7,.mref 1),(18,.list ((Wc a s).map encMv)),(19,.i (Wc a s).length),(20,.i j)]) ?_ (by simp[s1,s3,s6,s7,s18,s19,s20]);repeat(refine s_ ?_;simp[hw])
  refine Qc (sl':=[(1,LI (T0 cl)),(3,.vptr 0 0),(6,.nils),(7,.mref 1),(18,.list ((Wc a s).map encMv)),(19,.i (Wc a s).length),(20,.i (j+1:Nat))]) ?_ (by simp);exact zf _ E ⟨by omega,hE⟩ (by omega)
 have y0:j=(Wc a s).length:=by simp at yo;omega
 subst y0;have y6:∀t,(Cp a cl s (Wc a s).length t).length<=2048:=λt=>by unfold Cp;rw[yO];refine yP (yX _ _) ?_;rw[xV];omega
 refine Qn (sl':=[(3,.vptr 0 0),(6,.nils),(7,.mref 1)]) ?_ (by simp);refine MG.freeze za gG.inj gG.ne (λt ht=>by simp[AV.fz]) (Ly a cl s (Wc a s).length).length 0 G (by omega) (by rw[u1i];exact gG.map) (λi t _ ht=>gG.leaf t (zJ ht)) λH' y1 yc yd=>?_;have g0:H'[0]?=some (.vars [.i a.types,.list (a.fin.map .bool),.list (a.mv.map encMv),.list (Yp a)]):=by rw[yd 0 (by have:=Qe gG.map;omega) (by decide) (λt ht e=>by have:=gG.geL t ht;rw[hK]at this;simp at this;omega),gG.keep 0 (by rw[hK];simp)];exact ym
 rw[c12]at y1;clear yd gG ih;refine x1k 1 y1 (by simp[AV.pure]) ?_;have z1:=Qg y1 (.mp ((Ly a cl s (Wc a s).length).map λt:Nat=>(AV.i t,AV.list ((Cp a cl s (Wc a s).length t).map encP))));have z0:=Qd (j:=1) (by decide) g0 (.mp ((Ly a cl s (Wc a s).length).map λt:Nat=>(AV.i t,AV.list ((Cp a cl s (Wc a s).length t).map encP))));generalize H'.set 1 _=Z at *
 repeat(refine s_ ?_;simp)
 refine Af tOk rfl rfl rfl u28 rfl rfl z1 ?_;simp;repeat(refine s_ ?_;simp)
 have zq:Cp a cl s (Wc a s).length=Pl a cl s:=funext λt=>g1a a cl s t;rw[zq]at *;generalize zh:Ly a cl s (Wc a s).length=ks at *;refine Qn (sl':=[(3,.vptr 0 0),(6,.nils),(10,.nils),(43,.vptr Z.length 0)]) ?_ (by simp)
 refine Q3 10 73 3 rfl ?_;simp;have xb:=Qe z1;refine Q4 λE hE=>?_;have e0:E[0]?=some (.vars [.i a.types,.list (a.fin.map .bool),.list (a.mv.map encMv),.list (Yp a)]):=by rw[hE];exact Qa (Qd (j:=1) (by decide) z0 _) _
 have ei:E[Z.length]?=some (.it (ks.map λt:Nat=>(.i t,.list ((Pl a cl s t).map encP))) none):=by rw[hE,zH (by simp)];simp
 have eq:E[Z.length+1]?=some (.arr 73 3 []):=by rw[hE,zH (by simp)];simp
 clear hE;generalize Z.length=I at *;clear z0 z1;clear Z
 have hT:=ha.ok.types;have yv:((a.types.toNat:Nat):Int)=a.types:=by omega
 have ye:∀t,∀p∈Pl a cl s t,PWf a.types.toNat p:=λt p hp=>by obtain⟨m,hm,rfl⟩:=zQ.1 hp;exact(q0c ha.ok (xH.1 hm).1).1
 have yf:∀t,(Pl a cl s t).length<=1000000:=λt=>yP (z0r ha.ok cl s t) (by decide);have hU:∀t,PC prog 139 [.i a.types,LP (Pl a cl s t)] (λr=>r=encP (Ux a.types.toNat (Pl a cl s t))):=λt=>by
  have:=f0r a.types.toNat (Pl a cl s t) (by omega) (ye t) (λi _=>Mk ha.ok cl s t i) (yf t)
  rwa [yv]at this
 have yw:ks.length<=2048:=by rw[<-zh];unfold Ly;rw[yI];have:=f1u cl (Wc a s) [];simp only[List.length_nil]at this;omega
 have yy:∀t,∀r∈Ux a.types.toNat (Pl a cl s t),r.length<=1000000000:=λt r hr=>by have:=x2e (λi=>Mk ha.ok cl s t i) r hr;omega
 clear ye yf;refine Qj (Qc (sl':=[(3,.vptr 0 0),(6,.nils),(10,.sl (I+1) 3 0 ([]:List Nat).length),(43,.vptr I 0)]) ?_ (by simp));refine Qi (P:=prog) (F:=λ(u:List Nat×Option (AV×AV)×List Nat×Nat×List AObj)=>⟨[(3,.vptr 0 0),(6,.nils),(10,.sl u.2.2.2.1 3 0 u.2.2.1.length),(43,.vptr I 0)],u.2.2.2.2⟩)
  (λu=>I<u.2.2.2.1/\(u.2.2.1++u.1).Perm ks/\u.2.2.2.2[0]?=some (.vars [.i a.types,.list (a.fin.map .bool),.list (a.mv.map encMv),.list (Yp a)])/\u.2.2.2.2[I]?=some (.it (u.1.map λt:Nat=>(.i t,.list ((Pl a cl s t).map encP))) u.2.1)/\u.2.2.2.2[u.2.2.2.1]?=some (.arr 73 3 (u.2.2.1.map λt:Nat=>encMv ⟨0,t,Ux a.types.toNat (Pl a cl s t)⟩))) (λu=>u.1.length) ?_ (ks,none,[],I+1,E) ⟨by simp only;omega,by simp,e0,ei,eq⟩
 clear e0 ei eq;clear E;rintro⟨left,cur,ds,q,E⟩ ⟨yz,zg,e0,ei,eq⟩ ih;simp only at yz zg e0 ei eq ih |-;repeat(refine s_ ?_;simp)
 refine De rfl rfl rfl rfl ei (λx0=>?_) (λi p hp=>?_)
 ·simp;have x1:left=[]:=by simpa using x0
  subst x1;rw[xG]at zg;have xc:ds.length<=2048:=by rw[zg.length_eq];exact yw
  repeat(refine s_ ?_;simp)
  refine Qr rfl ?_;simp;repeat(refine s_ ?_;simp)
  have x2:(ds.map λt:Nat=>encMv ⟨0,t,Ux a.types.toNat (Pl a cl s t)⟩)=(ds.map λt:Nat=>(⟨0,(t:Int),Ux a.types.toNat (Pl a cl s t)⟩:Mv)).map encMv:=by rw[vT];rfl
  rw[x2]at eq;have zj:=g01 ha cl s (ks:=ds) (zg.symm.nodup za) (λt=>by
   rw[zg.mem_iff,<-zh,Xz,yI])
  have yg:∀m∈(ds.map λt:Nat=>(⟨0,(t:Int),Ux a.types.toNat (Pl a cl s t)⟩:Mv)),gdM a.types.toNat m:=λm hm=>by refine⟨zj.wf m hm,(Tw (zj.wf m hm)).2 (zj.ne m hm),λt ht=>?_⟩;obtain⟨u,_,rfl⟩:=zQ.1 hm;exact yy u t ht
  obtain⟨L,hL⟩:∃L,L=(ds.map λt:Nat=>(⟨0,(t:Int),Ux a.types.toNat (Pl a cl s t)⟩:Mv)):=⟨_,rfl⟩
  have x3:ds.length=L.length:=by rw[hL];simp
  rw[<-hL]at eq zj yg;have x4:L.length<=1000000:=by omega
  rw[x3];refine Qu rfl rfl (j02 a.types.toNat (by omega) E q L eq x4 yg) rfl ?_;rintro r H' ⟨rfl,l',h1,h2,rfl⟩;simp;have yh:=Tr ha cl hs;have zk:=zj.perm h1.symm;have zv:l'.Pairwise (ltG kyM):=by have x5:=zk.apart λt t' ty y=>C2 ha hs;refine(h2.and x5).imp λ{x y} h=>?_;obtain⟨e1,e2⟩:=h;exact y1i e1 e2
  have zl:l'=k16 a cl s:=zk.uniq yh.1 zv yh.2;have ya:=h1.length_eq;rw[<-ya];refine Qn (sl':=[(6,.nils),(10,.sl q 3 0 l'.length)]) ?_ (by simp);refine Ws q (Qg eq _) ?_;simp[AV.fz];rw[zV (by simp),zl];repeat(refine s_ ?_;simp)
 simp;rw[zS]at hp;obtain⟨t,ht,rfl⟩:=zP.1 hp;rw[Jq];have zm:(ds++[t]++left.eraseIdx i).Perm ks:=by refine List.Perm.trans ?_ zg;rw[xQ];exact List.Perm.append_left ds (Lb left i t ht).symm
 have xd:(left.eraseIdx i).length<left.length:=by rw[List.length_eraseIdx,if_pos (Eb ht)];have:=Eb ht;omega
 have xe:ds.length+1<=2048:=by have:=zm.length_eq;simp at this;omega
 have xf:=Qe ei;have zf:=λy2 q' E'=>ih (left.eraseIdx i,y2,ds++[t],q',E');simp only[zW,List.length_singleton,yR,xC,wD]at zf;generalize left.eraseIdx i=left' at *
 have k0:=Qd (j:=I) (by intro e;rw[e,e0]at ei;simp at ei) e0 (.it (left'.map λt:Nat=>(AV.i t,AV.list ((Pl a cl s t).map encP))) (some (AV.i t,AV.list ((Pl a cl s t).map encP))));have ki:=Qg ei (.it (left'.map λt:Nat=>(AV.i t,AV.list ((Pl a cl s t).map encP))) (some (AV.i t,AV.list ((Pl a cl s t).map encP))));have kq:=Qd (j:=I) (by omega) eq (.it (left'.map λt:Nat=>(AV.i t,AV.list ((Pl a cl s t).map encP))) (some (AV.i t,AV.list ((Pl a cl s t).map encP))));generalize E.set I (.it (left'.map λt:Nat=>(AV.i t,AV.list ((Pl a cl s t).map encP))) (some (AV.i t,AV.list ((Pl a cl s t).map encP))))=E1 at *
 clear e0 ei eq;repeat(refine s_ ?_;simp)
 refine Qr rfl ?_;simp;repeat(refine s_ ?_;simp)
 refine Ag rfl rfl rfl rfl ki ?_;simp;have zn:(ds.map λt:Nat=>encMv ⟨0,t,Ux a.types.toNat (Pl a cl s t)⟩).length=ds.length:=by simp
 generalize y4:(ds.map λt:Nat=>encMv ⟨0,t,Ux a.types.toNat (Pl a cl s t)⟩)=mm at *
 repeat(refine s_ ?_;simp[k0])
 refine pcL (hU t) ?_;simp;refine apS T23 T73 ?_;simp[Qa kq,Qh kq,kq,zn];refine⟨by simp[Wg,Qa kq,Qh kq,kq,zn]<;>omega,?_⟩;repeat(refine s_ ?_;simp)
 refine Qc (sl':=[(3,.vptr 0 0),(6,.nils),(10,.sl (E1.length+1) 3 0 (ds.length+1)),(43,.vptr I 0)]) ?_ (by simp);have xg:=Qe kq;refine zf _ (E1.length+1) _ ⟨by omega,by simpa using zm,Qa (Qd (j:=q) (by omega) k0 _) _,Qa (Qd (j:=q) (by omega) ki _) _,?_⟩ (by omega);rw[zH (by simp)];simp
end
section
open Go Go.Proofs
def Zz{a:Aut}(ha:Dfa a):(clA a).length=a.fin.length:=(y28 ha).len
def u2l{a:Aut}(ha:Dfa a):∀c∈clA a,c<=1000000:=λc hc=>by obtain⟨j,hj⟩:=yH.1 hc;obtain⟨z1,rfl⟩:=zB.1 hj;have:=(y28 ha).lt_fs (by rw[Zz ha]at z1;exact z1);have h2:=z16 ha;have h3:=ha.ok.fin;simp only[yQ,zI z1,Option.getD_some]at this;have h4:(Su (eqS a) a.fin.length).1.length<=a.fin.length:=h2;unfold clA at *;omega
def q16{l:List Nat}{i:Nat}(h:i<l.length):l.getD i 0∈l:=by rw[yQ,zI h];exact zL h
def y2h{a:Aut}(ha:Dfa a){c:Nat}(hc:Hy a c):c∈clA a:=by
 obtain⟨h1,h2⟩:=Rm ha hc;have hl:Tb a c<(clA a).length:=by rw[Zz ha];exact h1
 have e:Wp a (Tb a c)=(clA a).getD (Tb a c) 0:=rfl;rw[<-h2,e];exact q16 hl
def z2l{a:Aut}(ha:Dfa a){c:Nat}(hc:Hy a c):Nt (λy:Int=>((c:Nat):Int)==y) (T0 (clA a))=(Tb a c:Nat):=by
 have e:(λy:Int=>((c:Nat):Int)==y)=λy:Int=>y==((c:Nat):Int):=by funext y;rw[wK,beq_iff_eq,beq_iff_eq];exact eq_comm
 rw[e,k14 (y2h ha hc)];rfl
def v1v{a:Aut}(ha:Dfa a):(clA a)[0]?=some (Wp a 0):=by
 have z1:0<(clA a).length:=by rw[Zz ha];have:=ha.zero.2;omega
 have:Wp a 0=(clA a).getD 0 0:=by unfold Wp;rfl
 rw[this,yQ,zI z1];rfl
def c0s{a:Aut}(ha:Dfa a){c:Nat}(hc:Hy a c):c<=1000000:=by have h3:=z16 ha;have h4:=ha.ok.fin;unfold Hy at hc;omega
end
section
open Go Go.Proofs Go.Maps Go.RowKit
abbrev y1x (a:Aut):AObj:= .vars [.i a.types,.list (a.fin.map .bool),.list (a.mv.map encMv),.list (Yp a)]
def z18(a:Aut)(c:Nat):k16 a (clA a) (Tb a c:Nat)=Tz a c:=rfl
def k0r{l:List Bool}{i:Nat}(h:i<l.length):l[i]?=some (l.getD i false):=by simp[yQ,h]
attribute [local irreducible] clA Tb Tz Wh Dg Fw qMv qM qF Q1 mpO Wp k16 Yp Hy
def w0t(a:Aut)(ha:Dfa a):PC prog 56 [T1 a] (λr=>r=encA (Q1 a)):=by
 refine pcB func56 results56 ntmps56 ?_;simp only[Qf];simp only[T1,Wl];have xg:=ha.ok.fin;have hlen:=Zz ha;have hle:=u2l ha;have y3:0<(clA a).length:=by rw[hlen];have:=ha.zero.2;omega
 have xh:=v1v ha;have xi:Wp a 0<=1000000:=c0s ha (Po ha ha.zero);repeat(refine s_ ?_;simp)
 have cG:=q0s a ha;have cM:=λ(s:Int) (hs:inS a s)=>q1b a ha (clA a) hlen hle s hs;have xj:=λ(c:Nat) (hc:Hy a c)=>z2l ha hc;have y4:(T0 (clA a))[0]?=some ((Wp a 0:Nat):Int):=by simp[xh]
 have yw:0<(T0 (clA a)).length:=by simp[y3]
 generalize T0 (clA a)=CL at *
 have zk:∀hh,CL[0]'hh=((Wp a 0:Nat):Int):=λhh=>(zY hh).2 y4;simp only[T1,Wl]at cG cM;refine pcL (cG) ?_;simp;repeat(refine s_ ?_;simp)
 refine Wx rfl rfl rfl ?_;simp[yw,y4,zk];refine v0d rfl rfl rfl rfl (c:=Wp a 0) rfl rfl rfl xi ?_;simp;repeat(refine s_ ?_;simp[yw,y4,zk])
 refine Qn (sl':=[(1,.vptr 0 0),(2,.vptr 1 0),(3,LI CL),(4,.mref 2),(5,.sl 3 1 0 1),(6,.vptr 4 0),(7,.i (0:Nat))]) ?_ (by simp);refine Ep 4 1 4 1 rfl rfl ?_;refine Q4 λZ1 z8=>?_;have z1l:Z1.length=6:=by rw[z8];simp
 have z1c:Z1[4]?=some (.vars [.i a.types,.sl 5 1 0 0,.nils]):=by rw[z8];rfl
 have z1f:Z1[5]?=some (.arr 4 1 []):=by rw[z8];rfl
 have z1o:Z1[3]?=some (.arr 3 1 [.i (Wp a 0:Nat)]):=by rw[z8];rfl
 have z1m:Z1[2]?=some (mpO [Wp a 0]):=by rw[z8];rfl
 have z10:Z1[0]?=some (y1x a):=by rw[z8];rfl
 have z11:Z1[1]?=some (.vars [.i 0,.nils,.nils]):=by rw[z8];rfl
 clear z8;refine Ep 4 2 73 3 z1c rfl ?_;refine Q4 λZ2 za=>?_;have z2c:Z2[4]?=some (.vars [.i a.types,.sl 5 1 0 0,.sl 6 3 0 0]):=by rw[za,zK (by simp;omega)];simp[z1l]
 have z2f:Z2[5]?=some (.arr 4 1 []):=by rw[za,zE (by omega),zF (by omega)];exact z1f
 have z2v:Z2[6]?=some (.arr 73 3 []):=by rw[za,zE (by omega),zH (by omega)];simp[z1l]
 have z2o:Z2[3]?=some (.arr 3 1 [.i (Wp a 0:Nat)]):=by rw[za,zE (by omega),zF (by omega)];exact z1o
 have z2m:Z2[2]?=some (mpO [Wp a 0]):=by rw[za,zE (by omega),zF (by omega)];exact z1m
 have z20:Z2[0]?=some (y1x a):=by rw[za,zE (by omega),zF (by omega)];exact z10
 have z21:Z2[1]?=some (.vars [.i 0,.nils,.nils]):=by rw[za,zE (by omega),zF (by omega)];exact z11
 clear za z1l z1c z1f z10 z11 z1o z1m;clear Z1;refine Qj (Qc (sl':=[(1,.vptr 0 0),(2,.vptr 1 0),(3,LI CL),(4,.mref 2),(5,.sl 3 1 0 [Wp a 0].length),(6,.vptr 4 0),(7,.i (0:Nat))]) ?_ (by simp));refine Qi (P:=prog) (F:=λ(u:Nat×List Nat×Nat×Nat×Nat×List AObj)=>⟨[(1,.vptr 0 0),(2,.vptr 1 0),(3,LI CL),(4,.mref 2),(5,.sl u.2.2.1 1 0 u.2.1.length),(6,.vptr 4 0),(7,.i u.1)],u.2.2.2.2.2⟩)
  (λu=>QI a u.1 u.2.1/\u.2.2.2.2.2[0]?=some (y1x a)/\u.2.2.2.2.2[1]?=some (.vars [.i 0,.nils,.nils])/\u.2.2.2.2.2[2]?=some (mpO u.2.1)/\u.2.2.2.2.2[4]?=some (.vars [.i a.types,.sl u.2.2.2.1 1 0 u.1,.sl u.2.2.2.2.1 3 0 (qM a u.1 u.2.1).length])/\u.2.2.2.2.2[u.2.2.1]?=some (.arr 3 1 ((T0 u.2.1).map .i))/\u.2.2.2.2.2[u.2.2.2.1]?=some (.arr 4 1 ((qF a (u.2.1.take u.1)).map .bool))/\u.2.2.2.2.2[u.2.2.2.2.1]?=some (.arr 73 3 ((qM a u.1 u.2.1).map encMv)))
  (λu=>a.fin.length+1 - u.1) ?_ (0,[Wp a 0],3,5,6,Z2) ⟨QI.zero ha,z20,z21,z2m,by rw[c0z];exact z2c,z2o,by simpa[u20]using z2f,by rw[c0z];exact z2v⟩
 clear z20 z21 z2c z2f z2v z2o z2m;clear Z2;rintro⟨n,O,o,f,v,G⟩ ⟨hQ,g0,g1,gm,gc,go,gf,gv⟩ ih;simp only at hQ g0 g1 gm gc go gf gv ih |-;have w7:=hQ.len ha;have yy:=hQ.cl;repeat(refine s_ ?_;simp)
 refine Qb rfl (λxk=>?_) (λxl=>?_)
 ·have zd:n<O.length:=by simpa using xk
  have hw:=wz n (by omega);have y5:O[n]?=some O[n]:=zI zd;have zl:=yy _ (zL zd);have hst:=hQ.step ha y5;have yz:=z2s hQ y5;have x3:=w2t a (Tz a O[n]) y5;have xn:=x2p ha hQ;have zx:=λo' f' v' G'=>ih (n+1,Wh O (Tz a O[n]),o',f',v',G');simp only[yz,x3]at zx;clear yz x3 ih;have xp:((T0 O).map AV.i).length=O.length:=by simp
  have x4:=(Rm ha zl).1;have xq:=R4 ha zl;have xr:=xj _ zl;have xt:=z18 a O[n];have xu:=X6 ha zl;have x5:∀m∈Tz a O[n],∃d:Nat,m.dst=d/\d<=1000000:=λm hm=>by obtain⟨x,_,e,_,e2,_⟩:=Yy ha zl hm;exact⟨_,e,c0s ha e2⟩
  generalize xw:O[n]=c at *
  have x6:=k0r x4;have xy:∀hh,a.fin[Tb a c]'hh=a.fin.getD (Tb a c) false:=λhh=>(zY hh).2 x6;generalize a.fin.getD (Tb a c) false=b at *
  have w8:(Wc a (Tb a c:Nat)).length<=a.mv.length:=yX _ _;have w9:=ha.ok.mvs;have y6:o≠f:=λe=>by rw[e,gf]at go;simp at go
  have y7:o≠v:=λe=>by rw[e,gv]at go;simp at go
  have ze:f≠v:=λe=>by rw[e,gv]at gf;simp at gf
  have zy:o≠4:=λe=>by rw[e,gc]at go;simp at go
  have zj:f≠4:=λe=>by rw[e,gc]at gf;simp at gf
  have zn:v≠4:=λe=>by rw[e,gc]at gv;simp at gv
  have x7:o≠0:=λe=>by rw[e,g0]at go;simp at go
  have xz:f≠0:=λe=>by rw[e,g0]at gf;simp at gf
  have y8:v≠0:=λe=>by rw[e,g0]at gv;simp at gv
  have x8:o≠1:=λe=>by rw[e,g1]at go;simp at go
  have y9:f≠1:=λe=>by rw[e,g1]at gf;simp at gf
  have zp:v≠1:=λe=>by rw[e,g1]at gv;simp at gv
  have ya:o≠2:=λe=>by rw[e,gm]at go;unfold mpO at go;simp at go
  have yb:f≠2:=λe=>by rw[e,gm]at gf;unfold mpO at gf;simp at gf
  have zz:v≠2:=λe=>by rw[e,gm]at gv;unfold mpO at gv;simp at gv
  repeat(refine s_ ?_;simp[go,xp,zd,xw])
  refine pcL (z0j CL c) ?_;simp;rw[xr];repeat(refine s_ ?_;simp)
  have zq:((qF a (O.take n)).map AV.bool).length=n:=by simp[d1b];omega
  generalize wa:(qF a (O.take n))=fs at *;refine Qo tOk mixed [9,11] (.val 0 (.val 1 (.val 2 (.val 3 (.val 4 (.val 5 (.val 6 (.val 7 (.one 8 (.one 9 (.val 10 (.one 11 (.done))))))))))))) rfl (by kernel_rfl) ?_
  simp[gc,g0,x4,x6,xy];have g2c:∀M,(G.set f .dead++M)[4]?=some (.vars [.i a.types,.sl f 1 0 n,.sl v 3 0 (qM a n O).length]):=λM=>Qa (Qd zj gc _) M;have g2d:∀M hh,(G.set f .dead++M)[4]'hh= .vars [.i a.types,.sl f 1 0 n,.sl v 3 0 (qM a n O).length]:=λM hh=>(zY hh).2 (g2c M);refine apS T22 T4 ?_;simp[Qa gf,Qh gf,gf,zq,g2c,g2d];refine⟨by simp[Wg,Qa gf,Qh gf,gf,zq,g2c,g2d]<;>omega,?_⟩;refine Q4 λZ hZ=>?_;have yd:=Qe go;have ye:=Qe gv;have yg:=Qe gf;have z0:Z[0]?=some (y1x a):=by rw[hZ];exact Qd (by decide) (Qa (Qd xz g0 _) _) _
  have z1:Z[1]?=some (.vars [.i 0,.nils,.nils]):=by rw[hZ];exact Qd (by decide) (Qa (Qd y9 g1 _) _) _
  have zm:Z[2]?=some (mpO O):=by rw[hZ];exact Qd (by decide) (Qa (Qd yb gm _) _) _
  have zc:Z[4]?=some (.vars [.i a.types,.sl (G.length+1) 1 0 (n+1),.sl v 3 0 (qM a n O).length]):=by rw[hZ];exact Qg (g2c _) _
  have zf:Z[G.length+1]?=some (.arr 4 1 ((fs++[b]).map .bool)):=by rw[hZ,zE (by omega),zH (by simp)];simp
  have zv:Z[v]?=some (.arr 73 3 ((qM a n O).map encMv)):=by rw[hZ];exact Qd (Ne.symm zn) (Qa (Qd ze gv _) _) _
  have zo:Z[o]?=some (.arr 3 1 ((T0 O).map .i)):=by rw[hZ];exact Qd (Ne.symm zy) (Qa (Qd (Ne.symm y6) go _) _) _
  clear hZ g2c g2d g0 g1 gc go gf gv gm;generalize G.length+1=f1 at *
  have cMc:=cM (Tb a c) xq;rw[xt]at cMc;obtain⟨M,hM⟩:∃M,M=qM a n O:=⟨_,rfl⟩
  rw[<-hM]at zc zv xn zx;obtain⟨L,hL⟩:∃L,L=Tz a c:=⟨_,rfl⟩
  rw[<-hL]at xu x5 zx hst cMc;repeat(refine s_ ?_;simp[z0])
  refine pcL (cMc) ?_;simp;repeat(refine s_ ?_;simp)
  refine Qj (Qc (sl':=[(1,.vptr 0 0),(2,.vptr 1 0),(3,LI CL),(4,.mref 2),(5,.sl o 1 0 (Wh O (L.take 0)).length),(6,.vptr 4 0),(7,.i n),(54,.list (L.map encMv)),(55,.i L.length),(56,.i (0:Nat))]) ?_ (by simp[Us]));refine Qi (P:=prog) (F:=λ(u:Nat×Nat×Nat×List AObj)=>⟨[(1,.vptr 0 0),(2,.vptr 1 0),(3,LI CL),(4,.mref 2),(5,.sl u.2.1 1 0 (Wh O (L.take u.1)).length),(6,.vptr 4 0),(7,.i n),(54,.list (L.map encMv)),(55,.i L.length),(56,.i u.1)],u.2.2.2⟩)
   (λu=>u.1<=L.length/\u.2.2.2[0]?=some (y1x a)/\u.2.2.2[1]?=some (.vars [.i 0,.nils,.nils])/\u.2.2.2[2]?=some (mpO (Wh O (L.take u.1)))/\u.2.2.2[4]?=some (.vars [.i a.types,.sl f1 1 0 (n+1),.sl u.2.2.1 3 0 (M++qMv O L n u.1).length])/\u.2.2.2[u.2.1]?=some (.arr 3 1 ((T0 (Wh O (L.take u.1))).map .i))/\u.2.2.2[f1]?=some (.arr 4 1 ((fs++[b]).map .bool))/\u.2.2.2[u.2.2.1]?=some (.arr 73 3 ((M++qMv O L n u.1).map encMv))/\(Wh O (L.take u.1)).Nodup/\∀c∈Wh O (L.take u.1),c<=1000000)
   (λu=>L.length - u.1) ?_ (0,o,v,Z) ⟨xI _,z0,z1,by rw[wd,Us];exact zm,by rw[y0k,xG];exact zc,by rw[wd,Us];exact zo,zf,by rw[y0k,xG];exact zv,by rw[wd,Us];exact hQ.nd,by rw[wd,Us];exact λc hc=>c0s ha (yy c hc)⟩
  clear z0 z1 zc zo zf zv yd ye yg zm;clear Z;rintro⟨j,o,v,Z⟩ ⟨hj,z0,z1,zm,zc,zo,zf,zv,y2,zb⟩ ih2;simp only at hj z0 z1 zm zc zo zf zv y2 zb ih2 |-;repeat(refine s_ ?_;simp)
  refine Qb rfl (λyh=>?_) (λyi=>?_)
  ·have z7:j<L.length:=by simpa using yh
   have x9:=wz j (by omega);have xa:=j1c O L n z7;have xb:=Hi (o:=O) z7;have wb:=c1l O L n j;have we:(Wh O (L.take j)).length<=O.length+L.length:=u0t O (L.take j) (by simp;omega);have z6:=λo' v' Z'=>ih2 (j+1,o',v',Z');simp only[xa,xb,<-xQ]at z6;clear xa xb;obtain⟨d,hd,yj⟩:=x5 _ (zL z7);have yk:(L.map encMv)[j]?=some (encMv L[j]):=by simp[z7]
   have yl:∀hh,(L.map encMv)[j]'hh=encMv L[j]:=λhh=>by simp
   generalize w2:L[j]=m at *;rw[hd]at z6;simp only[Int.toNat_natCast]at z6;generalize hN:M++qMv O L n j=N at *
   have wg:N.length<=700000:=by rw[<-hN,zW];omega
   generalize Wh O (L.take j)=Oj at *;simp only[encMv]at yk yl;rw[hd]at yk yl
   have wh:4<Z.length:=Qe zc;have y6:o≠f1:=λe=>by rw[e,zf]at zo;simp at zo
   have y7:o≠v:=λe=>by rw[e,zv]at zo;simp at zo
   have ze:f1≠v:=λe=>by rw[e,zv]at zf;simp at zf
   have zy:o≠4:=λe=>by rw[e,zc]at zo;simp at zo
   have zj:f1≠4:=λe=>by rw[e,zc]at zf;simp at zf
   have zn:v≠4:=λe=>by rw[e,zc]at zv;simp at zv
   have x7:o≠0:=λe=>by rw[e,z0]at zo;simp at zo
   have y8:v≠0:=λe=>by rw[e,z0]at zv;simp at zv
   have x8:o≠1:=λe=>by rw[e,z1]at zo;simp at zo
   have zp:v≠1:=λe=>by rw[e,z1]at zv;simp at zv
   have ya:o≠2:=λe=>by rw[e,zm]at zo;unfold mpO at zo;simp at zo
   have zz:v≠2:=λe=>by rw[e,zm]at zv;unfold mpO at zv;simp at zv
   have yb:f1≠2:=λe=>by rw[e,zm]at zf;unfold mpO at zf;simp at zf
   repeat(refine s_ ?_;simp[yk,yl,z7])
   refine Kh λY hY=>?_;have y0:Y[0]?=some (y1x a):=by rw[hY];exact Qa z0 _
   have y1:Y[1]?=some (.vars [.i 0,.nils,.nils]):=by rw[hY];exact Qa z1 _
   have ym:Y[2]?=some (mpO Oj):=by rw[hY];exact Qa zm _
   have yc:Y[4]?=some (.vars [.i a.types,.sl f1 1 0 (n+1),.sl v 3 0 N.length]):=by rw[hY];exact Qa zc _
   have yo:Y[o]?=some (.arr 3 1 ((T0 Oj).map .i)):=by rw[hY];exact Qa zo _
   have yf:Y[f1]?=some (.arr 4 1 ((fs++[b]).map .bool)):=by rw[hY];exact Qa zf _
   have yv:Y[v]?=some (.arr 73 3 (N.map encMv)):=by rw[hY];exact Qa zv _
   have yx:Y[Z.length]?=some (.vars [.i m.src,.i d,.list (m.on.map encL)]):=by rw[hY,zH (by simp)];simp
   clear hY z0 z1 zm zc zo zf zv;generalize Z.length=u at *;clear Z
   have wi:v≠u:=λe=>by rw[e,yx]at yv;simp at yv
   have w3:o≠u:=λe=>by rw[e,yx]at yo;simp at yo
   have w4:2≠u:=λe=>by rw[<-e,ym]at yx;unfold mpO at yx;simp at yx
   have wj:4<u:=by omega
   refine q0l rfl rfl rfl rfl (c:=d) rfl (l:=Oj) ym y2 zb yj ?_;by_cases hmem:d∈Oj
   ·have zr:Dg Oj d=Oj:=by unfold Dg;rw[if_pos hmem]
    rw[zr]at z6;rw[if_pos hmem,decide_eq_true hmem];obtain⟨x,hx⟩:∃x,x=Fw Oj d:=⟨_,rfl⟩
    rw[<-hx]at z6 |-;clear hx zr;simp;repeat(refine s_ ?_;simp)
    refine Qr rfl ?_;simp;have zg:=zy;have zh:=y7;have zi:=y2;have yn:=zb;have zt:(N.map encMv).length=N.length:=by simp
    have yp:(N++[(⟨n,x,m.on⟩:Mv)]).map encMv=N.map encMv++[encMv ⟨n,x,m.on⟩]:=by simp
    have yq:(N++[(⟨n,x,m.on⟩:Mv)]).length=N.length+1:=by simp
    rw[yp,yq]at z6;generalize N.map encMv=NM at *
    have g3c:∀M,(Y.set v .dead++M)[4]?=some (.vars [.i a.types,.sl f1 1 0 (n+1),.sl v 3 0 N.length]):=λM=>Qa (Qd zn yc _) M;have g3d:∀M hh,(Y.set v .dead++M)[4]'hh= .vars [.i a.types,.sl f1 1 0 (n+1),.sl v 3 0 N.length]:=λM hh=>(zY hh).2 (g3c M);repeat(refine s_ ?_;simp[yc,yx])
    refine apS T23 T73 ?_;simp[Qa yv,Qh yv,yv,zt,g3c,g3d];refine⟨by simp[Wg,Qa yv,Qh yv,yv,zt,g3c,g3d]<;>omega,?_⟩;refine Q4 λW hW=>?_;have yr:=Qe yv;have yt:=Qe yc;have w0:W[0]?=some (y1x a):=by rw[hW];exact Qd (by decide) (Qa (Qd y8 y0 _) _) _
    have w1:W[1]?=some (.vars [.i 0,.nils,.nils]):=by rw[hW];exact Qd (by decide) (Qa (Qd zp y1 _) _) _
    have wm:W[2]?=some (mpO Oj):=by rw[hW];exact Qd (by decide) (Qa (Qd zz ym _) _) _
    have wc:W[4]?=some (.vars [.i a.types,.sl f1 1 0 (n+1),.sl (Y.length+1) 3 0 (N.length+1)]):=by rw[hW];exact Qg (g3c _) _
    have wo:W[o]?=some (.arr 3 1 ((T0 Oj).map .i)):=by rw[hW];exact Qd (Ne.symm zg) (Qa (Qd (Ne.symm zh) yo _) _) _
    have wf:W[f1]?=some (.arr 4 1 ((fs++[b]).map .bool)):=by rw[hW];exact Qd (Ne.symm zj) (Qa (Qd (Ne.symm ze) yf _) _) _
    have wv:W[Y.length+1]?=some (.arr 73 3 (NM++[encMv ⟨n,x,m.on⟩])):=by rw[hW,zE (by omega),zH (by simp)];simp
    clear hW;repeat(refine s_ ?_;simp[x9])
    refine Qc (sl':=[(1,.vptr 0 0),(2,.vptr 1 0),(3,LI CL),(4,.mref 2),(5,.sl o 1 0 Oj.length),(6,.vptr 4 0),(7,.i n),(54,.list (L.map encMv)),(55,.i L.length),(56,.i (j+1:Nat))]) ?_ (by simp);exact z6 o (Y.length+1) W ⟨by omega,w0,w1,wm,wc,wo,wf,wv,zi,yn⟩ (by omega)
   have zr:Dg Oj d=Oj++[d]:=by unfold Dg;rw[if_neg hmem]
   have xd:=f01 hmem;rw[zr,xd]at z6;rw[if_neg hmem,decide_eq_false hmem];clear zr xd;simp;repeat(refine s_ ?_;simp)
   refine Qr rfl ?_;simp;repeat(refine s_ ?_;simp[yx])
   refine v00 rfl rfl rfl rfl (c:=d) rfl (l:=Oj) rfl ym zb yj hmem ?_;simp;refine Q4 λX hX=>?_;have x0:X[0]?=some (y1x a):=by rw[hX];exact Qd (by decide) y0 _
   have x1:X[1]?=some (.vars [.i 0,.nils,.nils]):=by rw[hX];exact Qd (by decide) y1 _
   have xm:X[2]?=some (mpO (Oj++[d])):=by rw[hX];exact Qg ym _
   have xc:X[4]?=some (.vars [.i a.types,.sl f1 1 0 (n+1),.sl v 3 0 N.length]):=by rw[hX];exact Qd (by decide) yc _
   have xo:X[o]?=some (.arr 3 1 ((T0 Oj).map .i)):=by rw[hX];exact Qd (Ne.symm ya) yo _
   have xf:X[f1]?=some (.arr 4 1 ((fs++[b]).map .bool)):=by rw[hX];exact Qd (Ne.symm yb) yf _
   have xv:X[v]?=some (.arr 73 3 (N.map encMv)):=by rw[hX];exact Qd (Ne.symm zz) yv _
   have xx:X[u]?=some (.vars [.i m.src,.i d,.list (m.on.map encL)]):=by rw[hX];exact Qd w4 yx _
   clear hX y0 y1 ym yc yo yf yv yx;clear Y;have w5:(T0 Oj).length=Oj.length:=by simp
   have w6:T0 (Oj++[d])=T0 Oj++[(d:Int)]:=by simp
   rw[w6]at z6;generalize T0 Oj=NO at *
   have zu:(NO.map AV.i).length=Oj.length:=by simp[w5]
   have x0s:∀E,(X.set o .dead++E)[u]?=some (.vars [.i m.src,.i d,.list (m.on.map encL)]):=λE=>Qa (Qd w3 xx _) E;repeat(refine s_ ?_;simp[xx])
   refine apS T47 T3 ?_;simp[Qa xo,Qh xo,xo,zu];refine⟨by simp[Wg,Qa xo,Qh xo,xo,zu]<;>omega,?_⟩;refine Q4 λY hY=>?_;have wk:=Qe xv;have wq:=Qe xf;have wu:=Qe xc;have y0:Y[0]?=some (y1x a):=by rw[hY];exact Qa (Qd x7 x0 _) _
   have y1:Y[1]?=some (.vars [.i 0,.nils,.nils]):=by rw[hY];exact Qa (Qd x8 x1 _) _
   have ym:Y[2]?=some (mpO (Oj++[d])):=by rw[hY];exact Qa (Qd ya xm _) _
   have yc:Y[4]?=some (.vars [.i a.types,.sl f1 1 0 (n+1),.sl v 3 0 N.length]):=by rw[hY];exact Qa (Qd zy xc _) _
   have yf:Y[f1]?=some (.arr 4 1 ((fs++[b]).map .bool)):=by rw[hY];exact Qa (Qd y6 xf _) _
   have yv:Y[v]?=some (.arr 73 3 (N.map encMv)):=by rw[hY];exact Qa (Qd y7 xv _) _
   have yx:Y[u]?=some (.vars [.i m.src,.i d,.list (m.on.map encL)]):=by rw[hY];exact x0s _
   have yo:Y[X.length+1]?=some (.arr 3 1 ((NO++[(d:Int)]).map .i)):=by rw[hY,zH (by simp)];simp
   clear hY;obtain⟨x,hx⟩:∃x,x=Oj.length:=⟨_,rfl⟩
   refine Qn (sl':=[(1,.vptr 0 0),(2,.vptr 1 0),(3,LI CL),(4,.mref 2),(5,.sl (X.length+1) 1 0 (Oj++[d]).length),(6,.vptr 4 0),(7,.i n),(10,.vptr u 0),(11,.i x),(54,.list (L.map encMv)),(55,.i L.length),(56,.i j)]) ?_ (by simp[hx]);rw[<-hx]at z6;have zg:X.length+1≠4:=by omega
   have zh:X.length+1≠v:=by omega
   have zi:(Oj++[d]).Nodup:=vw.2 ⟨y2,by simp,λx hx y hy e=>by rw[zO.1 hy]at e;exact hmem (e▸hx)⟩;have yn:∀c∈Oj++[d],c<=1000000:=λc hc=>by
    rcases zT.1 hc with hc|hc
    ·exact zb c hc
    rw[zO.1 hc];exact yj
   generalize X.length+1=oq at *;generalize NO++[(d:Int)]=NQ at *;clear hx;generalize Oj++[d]=OQ at *
   have zt:(N.map encMv).length=N.length:=by simp
   have yp:(N++[(⟨n,x,m.on⟩:Mv)]).map encMv=N.map encMv++[encMv ⟨n,x,m.on⟩]:=by simp
   have yq:(N++[(⟨n,x,m.on⟩:Mv)]).length=N.length+1:=by simp
   rw[yp,yq]at z6;generalize N.map encMv=NM at *
   have g3c:∀M,(Y.set v .dead++M)[4]?=some (.vars [.i a.types,.sl f1 1 0 (n+1),.sl v 3 0 N.length]):=λM=>Qa (Qd zn yc _) M;have g3d:∀M hh,(Y.set v .dead++M)[4]'hh= .vars [.i a.types,.sl f1 1 0 (n+1),.sl v 3 0 N.length]:=λM hh=>(zY hh).2 (g3c M);repeat(refine s_ ?_;simp[yc,yx])
   refine apS T23 T73 ?_;simp[Qa yv,Qh yv,yv,zt,g3c,g3d];refine⟨by simp[Wg,Qa yv,Qh yv,yv,zt,g3c,g3d]<;>omega,?_⟩;refine Q4 λW hW=>?_;have yr:=Qe yv;have yt:=Qe yc;have w0:W[0]?=some (y1x a):=by rw[hW];exact Qd (by decide) (Qa (Qd y8 y0 _) _) _
   have w1:W[1]?=some (.vars [.i 0,.nils,.nils]):=by rw[hW];exact Qd (by decide) (Qa (Qd zp y1 _) _) _
   have wm:W[2]?=some (mpO OQ):=by rw[hW];exact Qd (by decide) (Qa (Qd zz ym _) _) _
   have wc:W[4]?=some (.vars [.i a.types,.sl f1 1 0 (n+1),.sl (Y.length+1) 3 0 (N.length+1)]):=by rw[hW];exact Qg (g3c _) _
   have wo:W[oq]?=some (.arr 3 1 (NQ.map .i)):=by rw[hW];exact Qd (Ne.symm zg) (Qa (Qd (Ne.symm zh) yo _) _) _
   have wf:W[f1]?=some (.arr 4 1 ((fs++[b]).map .bool)):=by rw[hW];exact Qd (Ne.symm zj) (Qa (Qd (Ne.symm ze) yf _) _) _
   have wv:W[Y.length+1]?=some (.arr 73 3 (NM++[encMv ⟨n,x,m.on⟩])):=by rw[hW,zE (by omega),zH (by simp)];simp
   clear hW;repeat(refine s_ ?_;simp[x9])
   refine Qc (sl':=[(1,.vptr 0 0),(2,.vptr 1 0),(3,LI CL),(4,.mref 2),(5,.sl oq 1 0 OQ.length),(6,.vptr 4 0),(7,.i n),(54,.list (L.map encMv)),(55,.i L.length),(56,.i (j+1:Nat))]) ?_ (by simp);exact z6 oq (Y.length+1) W ⟨by omega,w0,w1,wm,wc,wo,wf,wv,zi,yn⟩ (by omega)
  have zw:j=L.length:=by simp at yi;omega
  subst zw;rw[yI]at zo zm |-;repeat(refine s_ ?_;simp[hw])
  refine Qc (sl':=[(1,.vptr 0 0),(2,.vptr 1 0),(3,LI CL),(4,.mref 2),(5,.sl o 1 0 (Wh O L).length),(6,.vptr 4 0),(7,.i (n+1:Nat))]) ?_ (by simp);exact zx o f1 v Z ⟨hst,z0,z1,zm,zc,zo,zf,zv⟩ (by omega)
 have yu:n=O.length:=by simp at xl;have:=hQ.le;omega
 rw[y2m ha hQ yu];have xe:=d1b a (O.take n);rw[xV,Nat.min_eq_left hQ.le]at xe;generalize qF a (O.take n)=fs at *;generalize qM a n O=M at *
 have ze:f≠v:=λe=>by rw[e,gv]at gf;simp at gf
 have zj:f≠4:=λe=>by rw[e,gc]at gf;simp at gf
 have zn:v≠4:=λe=>by rw[e,gc]at gv;simp at gv
 have y9:f≠1:=λe=>by rw[e,g1]at gf;simp at gf
 have zp:v≠1:=λe=>by rw[e,g1]at gv;simp at gv
 rw[<-xe]at gc;refine Qn (sl':=[(2,.vptr 1 0),(6,.vptr 4 0)]) ?_ (by simp);refine Q6 v gv 4 gc ?_;simp[ze];rw[zV (by simp)];refine Q4 λZ hZ=>?_;have wx:=Qe gv;have z2:Z[4]?=some (.vars [.i a.types,.sl f 1 0 fs.length,.list (M.map encMv)]):=by rw[hZ,zK (by have:=Qe gc;simpa using this)]
 have zf:Z[f]?=some (.arr 4 1 (fs.map .bool)):=by rw[hZ,zE (Ne.symm zj),zE (Ne.symm ze)];exact gf
 have z1:Z[1]?=some (.vars [.i 0,.nils,.nils]):=by rw[hZ,zE (by decide),zE zp];exact g1
 clear hZ;refine Q6 f zf 4 z2 ?_;simp;rw[zV (by simp)];refine Q4 λX hX=>?_;have x2:X[4]?=some (.vars [.i a.types,.list (fs.map .bool),.list (M.map encMv)]):=by rw[hX,zK (by have:=Qe z2;simpa using this)]
 have x1:X[1]?=some (.vars [.i 0,.nils,.nils]):=by rw[hX,zE (by decide),zE y9];exact z1
 clear hX;have x1s:∀Y,(X.set 1 Y)[1]?=some Y:=λY=>Qg x1 Y;repeat(refine s_ ?_;simp[x2,x1,x1s])
end
section
open Go Go.Proofs
def j1y{a:Aut}(ha:Dfa a){m:Mv}(hm:m∈(Q1 a).mv):Eu a.types m.on=0↔(m.on.any λs=>decide (256<s.length))=false:=by
 have h:=Zy ha;have hT:=ha.ok.types;have hw:PWf a.types.toNat m.on:=h.on m hm;rw[W3];simp only[vv,decide_eq_true_eq];constructor
 ·rintro⟨_,h2⟩ s hs;have:=(h2.2 s hs).len;omega
 intro h2;refine⟨hT,hw.1,λs hs=>?_⟩;have z1:=hw.2 s hs;exact Sr z1.1 (Mg z1.1 z1.2) (by have:=h2 s hs;omega)
def c0o{a:Aut}(h:Wo a≠0):(Wv a).1=Wo a:=by unfold Wv;rw[w0q h,if_pos h]
def g04{a:Aut}(h:(Wv a).1≠0):Pr a=((Wv a).1,Ty):=by rw[Pr,if_pos h]
def q2w{a:Aut}(h:Wo a≠0):Pr a=(Wo a,Ty):=by rw[g04 (by rw[c0o h];exact h),c0o h]
def C4{a:Aut}(h:(Wv a).1=0):Sx (Wv a).2=Il (Wv a).2:=by rw[Sx,if_neg (λk=>k ((Ud _).2 (f1o h)))]
def y2o{a:Aut}(h:(Wv a).1=0)(h2:(Sx (Wv a).2).1≠0):Pr a=((Sx (Wv a).2).1,Ty):=by rw[C4 h]at *;rw[Pr,if_neg (λk=>k h),if_pos h2]
def x2c{a:Aut}(h:(Wv a).1=0)(h2:(Sx (Wv a).2).1=0):Pr a=if Jt (Q1 (Sx (Wv a).2).2)then(5,Ty)else(0,Q1 (Sx (Wv a).2).2):=by rw[C4 h]at *;rw[Pr,if_neg (λk=>k h),if_neg (λk=>k h2)]
def v1m{a:Aut}(z1:Wo a=0)(h:(Wv a).1=0)(h2:(Sx (Wv a).2).1=0):Dfa (Sx (Wv a).2).2:=by rw[C4 h]at *;exact(g0j ((Ud a).1 z1) (d:=(Wv a).2) (c:=(Il (Wv a).2).2) (vY h rfl) (vY h2 rfl)).1
end
section
open Go Go.Proofs Go.Maps Go.RowKit
attribute [local irreducible] Wv Sx Q1 Pr Wo Eu Yp
def Fc(a:Aut):PC prog 18 [encA a] (λr=>r= .tup [encA (Pr a).2,.i (Pr a).1]):=by
 refine pcB func18 results18 ntmps18 ?_;simp only[Qf];simp only[encA];obtain⟨R,hR⟩:∃R,Pr a=R:=⟨_,rfl⟩
 rw[hR];repeat(refine s_ ?_;simp)
 refine pcL (R6 a) ?_;simp;repeat(refine s_ ?_;simp)
 refine Qb rfl (λh=>?_) (λh=>?_)
 ·have h':Wo a≠0:=by simpa using h
  rw[q2w h']at hR;rw[<-hR];repeat(refine s_ ?_;simp)
  exact⟨rfl,rfl,rfl⟩
 have z8:Wo a=0:=by simpa using h
 repeat(refine s_ ?_;simp)
 refine pcL (Ex a) ?_;simp;repeat(refine s_ ?_;simp)
 refine Qb rfl (λh=>?_) (λh=>?_)
 ·have h':(Wv a).1≠0:=by simpa using h
  rw[g04 h']at hR;rw[<-hR];repeat(refine s_ ?_;simp)
  exact⟨rfl,rfl,rfl⟩
 have hd:(Wv a).1=0:=by simpa using h
 have zc:=λh=>y2o (a:=a) hd h;have zd:=λh=>x2c (a:=a) hd h;have ze:=λh=>v1m (a:=a) z8 hd h;generalize (Wv a).2=d at *
 repeat(refine s_ ?_;simp)
 refine pcL (Jn d) ?_;simp;repeat(refine s_ ?_;simp)
 refine Qb rfl (λh=>?_) (λh=>?_)
 ·have h':(Sx d).1≠0:=by simpa using h
  rw[zc h']at hR;rw[<-hR];repeat(refine s_ ?_;simp)
  exact⟨rfl,rfl,rfl⟩
 have hc:(Sx d).1=0:=by simpa using h
 have z7:=zd hc;have ha:=ze hc;rw[hR]at z7;clear zd ze zc;generalize (Sx d).2=c at *
 repeat(refine s_ ?_;simp)
 refine pcL (Cw c ha.ok) ?_;simp;refine pcL (w0t c ha) ?_;simp;repeat(refine s_ ?_;simp)
 have zj:=λ(m:Mv) (hm:m∈(Q1 c).mv)=>j1y ha hm;have zp:(Q1 c).mv.length<=2048:=yP (Np ha) ha.ok.mvs;have zf:Jt (Q1 c)=(Q1 c).mv.any λk=>k.on.any λs=>decide (256<s.length):=rfl;have zk:(Q1 c).types=c.types:=Je c;generalize Q1 c=m at *;refine Q4 λZ hZ=>?_
 have z1:Z[1]?=some (.vars [.i 0,.nils,.nils]):=by rw[hZ];rfl
 have z4:Z[4]?=some (.vars (Qk m)):=by rw[hZ];rfl
 clear hZ;refine Qj (Qc (sl':=[(2,.vptr 1 0),(3,.i 0),(8,.vptr 4 0),(39,.list (m.mv.map encMv)),(40,.i m.mv.length),(41,.i (0:Nat))]) ?_ (by simp));refine Qi (P:=prog) (F:=λ(u:Nat×List AObj)=>⟨[(2,.vptr 1 0),(3,.i 0),(8,.vptr 4 0),(39,.list (m.mv.map encMv)),(40,.i m.mv.length),(41,.i u.1)],u.2⟩)
  (λu=>u.1<=m.mv.length/\u.2[1]?=some (.vars [.i 0,.nils,.nils])/\u.2[4]?=some (.vars (Qk m))/\∀k∈m.mv.take u.1,(k.on.any λs=>decide (256<s.length))=false) (λu=>m.mv.length - u.1) ?_ (0,Z) ⟨xI _,z1,z4,by simp⟩
 clear z1 z4;clear Z;rintro⟨j,Z⟩ ⟨hj,z1,z4,za⟩ ih;simp only at hj z1 z4 za ih |-;repeat(refine s_ ?_;simp)
 refine Qb rfl (λzl=>?_) (λzm=>?_)
 ·have z6:j<m.mv.length:=by simpa using zl
  have hw:=wz j (by omega);have zg:=zL z6;have z8:=zj _ zg;have zn:∀k∈m.mv.take (j+1),k∈m.mv.take j\/k=m.mv[j]:=λk hk=>by
   rw[zU z6]at hk;rcases zT.1 hk with h|h
   ·exact .inl h
   exact .inr (zO.1 h)
  have zh:(m.mv.map encMv)[j]?=some (encMv m.mv[j]):=by simp[z6]
  have zi:∀hh,(m.mv.map encMv)[j]'hh=encMv m.mv[j]:=λhh=>by simp
  generalize zq:m.mv[j]=k at *;simp only[encMv]at zh zi
  have z4s:∀E,(Z++E)[4]?=some (.vars (Qk m)):=λE=>Qa z4 E;have z4h:∀E hh,(Z++E)[4]'hh= .vars (Qk m):=λE hh=>(zY hh).2 (z4s E);repeat(refine s_ ?_;simp[zh,zi,z6,z4s,z4h])
  refine pcL (Au m.types k.on) ?_;simp;rw[zk];refine Q4 λY hY=>?_;have y1:Y[1]?=some (.vars [.i 0,.nils,.nils]):=by rw[hY];exact Qa z1 _
  have y4:Y[4]?=some (.vars (Qk m)):=by rw[hY];exact Qa z4 _
  have yx:Y[Z.length]?=some (.vars [.i k.src,.i k.dst,.list (k.on.map encL)]):=by rw[hY,zH (by simp)];simp
  clear hY;have y1s:∀X,(Y.set 1 X)[1]?=some X:=λX=>Qg y1 X;refine Qb rfl (λh=>?_) (λh=>?_)
  ·have h':Jt m=true:=by
    rw[zf,List.any_eq_true];refine⟨k,zg,?_⟩;have h2:Eu c.types k.on≠0:=by simpa using h
    cases hb:k.on.any λs=>decide (256<s.length)with
    |true=>rfl
    |false=>exact absurd (z8.2 hb) h2
   rw[if_pos h']at z7;rw[z7];repeat(refine s_ ?_;simp[y1,y1s])
   exact⟨rfl,rfl,rfl⟩
  have h2:Eu c.types k.on=0:=by simpa using h
  repeat(refine s_ ?_;simp[hw])
  refine Qc (sl':=[(2,.vptr 1 0),(3,.i 0),(8,.vptr 4 0),(39,.list (m.mv.map encMv)),(40,.i m.mv.length),(41,.i (j+1:Nat))]) ?_ (by simp);refine ih (j+1,Y) ⟨by omega,y1,y4,λk' zo=>?_⟩ (by simp only;omega);rcases zn k' zo with e|rfl
  ·exact za k' e
  exact z8.1 h2
 have zb:j=m.mv.length:=by simp at zm;omega
 subst zb;rw[yI]at za;have h':Jt m=false:=by rw[zf,vv];exact λk hk=>by rw[za k hk];simp
 rw[h',if_neg (by simp)]at z7;rw[z7];have y1s:∀X,(Z.set 1 X)[1]?=some X:=λX=>Qg z1 X;repeat(refine s_ ?_;simp[z4,z1,y1s])
end
end Go.Abs
