/- Part Xl of the proof: steps on the way to the last part. No condition. -/
import Derived.Test.YtjmkolhkojgjpaaGreatDoorXk
import Derived.Test.YtjmkolhkojgjpaaGreatDoorXh
import Derived.Test.YtjmkolhkojgjpaaGreatDoorXi
import Derived.Test.YtjmkolhkojgjpaaGreatDoorXj
import Derived.Test.YtjmkolhkojgjpaaGreatDoorXf
import Derived.Test.YtjmkolhkojgjpaaGreatDoorXd
import Derived.Test.YtjmkolhkojgjpaaGreatDoorXe
import Derived.Test.YtjmkolhkojgjpaaGreatDoorXc
import Derived.Test.YtjmkolhkojgjpaaGreatDoorXg
set_option linter.all false
open List renaming range->yU,take_of_length_le->zV,mem_singleton->zO,all_eq_true->zZ,getElem?_append_left->zF,getElem?_eq_some_iff->zB,nodup_append->vw,mem_append->zT,getD->yQ,getElem?_eq_none->yY,getElem?_append_right->zH,mem_of_getElem?->zJ,mem_map->zQ,getElem_eq_iff->zY,mem_range->xJ,getElem?_eq_getElem->zI,getElem?_set_self->zK,take_length->yI,take_succ_eq_append_getElem->zU,filter_append->u9,getElem?_map->zS,getElem_mem->zL,getElem?_set_ne->zE,length_filter_le->yX,take->sm,map_append->yR,mem_of_mem_drop->vZ
open Nat renaming le_refl->zR,le_trans->yP,zero_le->xI
open Option renaming map_eq_some_iff->zP
set_option maxHeartbeats 16000000
set_option linter.unusedSimpArgs false
set_option maxRecDepth 100000
open Go.Proofs.Tryz
namespace Go.Abs
section
open Go Go.Proofs Go.Maps Go.RowKit
attribute [local irreducible] Mu Pr E9 w0p
end
section
open Go Go.Proofs Go.Maps Go.RowKit
def exT:Aut:=⟨1,[false,true],[⟨0,0,g25⟩,⟨0,1,j1m⟩]⟩
def A3:Aut:=⟨1,[false,true],[⟨0,0,j2q⟩,⟨0,1,j1m⟩,⟨1,0,j2q⟩,⟨1,1,j1m⟩]⟩
def xtQ:List (List Int):=[[0],[0,1]]
def u2m:Wo exT=0:=by decide+kernel
def w28:(Cf exT.types (onA exT)).1=0/\(Cf exT.types (onA exT)).2=xrC:=by decide+kernel
def q23:Jm exT xrC=some xtQ:=by decide+kernel
def c1z:Uh exT xrC xtQ=A3:=by kernel_rfl
def f1z:Vn A3=false:=by decide+kernel
def d02:Wv exT=(0,A3):=f1k u2m w28 q23 c1z f1z
def q24:Ta A3 (Wz A3)=[]:=List.isEmpty_iff.1 (by decide+kernel)
def v2p:Il A3=(0,A3):=by rw[Il,q24];rfl
def y15:Q1 A3=A3:=by kernel_rfl
def y23:Jt A3=false:=by decide+kernel
def g1x:Pr exT=(0,A3):=by rw[Pr,d02,if_neg (by simp)];simp only[v2p];rw[if_neg (by simp),y15,y23];rfl
def d1m:Wo A3=0:=by decide+kernel
def y18:(Cf A3.types (onA A3)).1=0/\(Cf A3.types (onA A3)).2=xrC:=by decide+kernel
def g1q:Jm A3 xrC=some xqQ:=by decide+kernel
def j1h:Uh A3 xrC xqQ=A3:=by kernel_rfl
def y2j:Wv A3=(0,A3):=f1k d1m y18 g1q j1h f1z
def f1i:OkA exT:=(Ud _).1 u2m
def u2b:OkA A3:=(Ud _).1 d1m
def q1g:E9 exT A3=0:=Sn.2 ⟨f1i,u2b,rfl⟩
def d1z:Ij exT A3=0:=(Hs q1g).2 ⟨by rw[d02],by rw[y2j]⟩
def v2q:w1g exT A3=(([],false),0):=by
 rcases c0a q1g d1z with⟨w,_,h⟩|⟨h,_⟩
 ·have:=d1r h;rw[(Hk f1i g1x).2.2.2.1 w h.okw]at this;exact absurd rfl this
 exact h
end
section
open Go Go.Proofs Go.Maps Go.RowKit
def x0e(lo hi:Int):PC prog 39 [.i lo,.i hi] (λr=>r=encP [[⟨lo,hi⟩]]):=by refine pcB func39 results39 ntmps39 ?_;simp only[Qf];refine Dc (A2 tOk rfl ?_);simp;refine Dc (A2 tOk rfl ?_);simp;refine Ib 1 (e:=144) (c:=2) (xs:=[encIv ⟨lo,hi⟩]) rfl 2 (o0:= .va 145 1 [.sl 1 2 0 1]) rfl (by decide) rfl ?_;simp[AObj.fz,AV.fz];refine Ow 2 rfl (by simp[AV.cells,AV.pure]) ?_;simp;refine Q6 2 (e:=145) (c:=1) (xs:=[encL [⟨lo,hi⟩]]) rfl 0 rfl ?_;simp;repeat(refine s_ ?_;simp)
attribute [local irreducible] Wv Pr w1g E9 Mu
def f0j:PC prog 12 [] (λr=>r= .bool true):=by
 refine pcB func12 results12 ntmps12 ?_;simp only[Qf];have z1:yU 2=[0,1]:=rfl;have cD:=Ex exT;have cM:=Fc exT;have cS:=Bc exT A3;rw[d02]at cD;rw[g1x]at cM;rw[v2q]at cS;repeat(refine s_ ?_;simp[z1])
 refine pcL (x0e (-1099511627776) 1099511627776) ?_;simp[z1];refine pcL (x0e 5 1099511627776) ?_;simp[z1];refine Qn (sl':=[(0,.bool false),(1,.vptr 2 0)]) ?_ (by simp);refine Q6 0 (e:=4) (c:=1) (xs:=[.bool false,.bool true]) rfl 2 rfl ?_;simp;refine Q6 1 (e:=73) (c:=3) (xs:=exT.mv.map encMv) rfl 2 rfl ?_;have z6:exT.mv.length=2:=rfl;simp[z6];rw[zV (by simp[z6])];have e0:([AV.int .i64 1,AV.list [.bool false,.bool true],AV.list (exT.mv.map encMv)]:List AV)=Qk exT:=rfl;rw[e0];have h1:A3.fin.length=2:=rfl;have h2:A3.mv.length=4:=rfl;have z7:IntKind.i64.wrap 0=0:=by decide
 generalize exT=a at *;generalize A3=d at *;simp only[encA]at cD cM cS
 repeat(refine s_ ?_;simp)
 refine pcL (cD) ?_;simp;repeat(refine s_ ?_;simp)
 refine pcL (cM) ?_;simp;repeat(refine s_ ?_;simp)
 refine pcL (cS) ?_;simp[v2i];refine Qn (sl':=[(0,.bool false),(2,.vptr 3 0),(3,.i 0),(4,.vptr 4 0),(5,.i 0),(6,LSy []),(7,.bool false),(8,.i 0)]) ?_ (by simp);repeat(refine s_ ?_;simp[h1,h2,z7])
def N3(a b:Aut):PC prog 13 [encA a,encA b] (λr=>r= .bool (Mu a && Mu b && decide (E9 a b=0))):=by
 refine pcB func13 results13 ntmps13 ?_;simp only[Qf];have c1:=g09 a;have c2:=g09 b;have c3:=k1x a b;simp only[encA]at c1 c2 c3 |-;repeat(refine s_ ?_;simp)
 cases h1:Mu a
 ·rw[h1]at c1;refine pcL (c1) ?_;simp;refine Wi rfl rfl ?_;simp;refine Wi rfl rfl ?_;simp;repeat(refine s_ ?_;simp)
 rw[h1]at c1;refine pcL (c1) ?_;simp;cases h2:Mu b
 ·rw[h2]at c2;refine pcL (c2) ?_;simp;refine Wi rfl rfl ?_;simp;repeat(refine s_ ?_;simp)
 rw[h2]at c2;refine pcL (c2) ?_;simp;refine pcL (c3) ?_;simp;repeat(refine s_ ?_;simp)
 rw[Bool.eq_iff_iff];simp
end
def Xn(a:Aut)(w:List Sy):E5 a w=true↔Bu a 0 w:=by unfold E5;rw[Nl];simp
structure Sim (p a b:Aut) (prs:List (Int×Int)):Prop where
 first:prs[0]?=some (0,0)
 fin:∀(k:Nat) (s:Int×Int),prs[k]?=some s->p.fin.getD k false=true->a.fin.getD s.1.toNat false=true/\b.fin.getD s.2.toNat false=true
 mv:∀m∈p.mv,∃(s t:Int×Int) (ma mb:Mv),prs[m.src.toNat]?=some s/\prs[m.dst.toNat]?=some t/\ma∈a.mv/\mb∈b.mv/\ma.src=s.1/\mb.src=s.2/\ma.dst=t.1/\mb.dst=t.2/\∀x,Wb a x->Rk m.on x=true->Rk ma.on x=true/\Rk mb.on x=true
def Sim.go{p a b:Aut}{prs:List (Int×Int)}(h:Sim p a b prs)(ha:OkA a)(hb:OkA b)(hp:OkA p):∀(w:List Sy) (k:Nat) (s:Int×Int),prs[k]?=some s->(∀x∈w,Wb a x)->Bu p k w->Bu a s.1 w/\Bu b s.2 w
 |[],k,s,hk,_,hf=>h.fin k s hk (by simpa[Bu]using hf)
 |x::w,k,s,hk,hw,⟨q,hq,hf⟩=>by
  obtain⟨z6,m,hm,h1,h2,h3⟩:=We.1 hq;rw[zO]at h1;obtain⟨s',t,ma,mb,e1,e2,e3,e4,e5,e6,e7,e8,e9⟩:=h.mv m hm;rw[h1]at e1;have:s'=s:=by simp only[Int.toNat_natCast]at e1;rw[hk]at e1;exact(Option.some.inj e1).symm
  subst this;obtain⟨k1,k2⟩:=e9 x (hw x (by simp)) h2;have z1:q=((q.toNat:Nat):Int):=by omega
  rw[h3]at e2;rw[z1]at hf;obtain⟨f1,f2⟩:=h.go ha hb hp w q.toNat t e2 (λy hy=>hw y (by simp[hy])) hf;exact⟨⟨t.1,We.2 ⟨by rw[<-e7];exact(ha.mv ma e3).dst,ma,e3,by rw[zO];exact e5,k1,e7⟩,f1⟩,⟨t.2,We.2 ⟨by rw[<-e8];exact(hb.mv mb e4).dst,mb,e4,by rw[zO];exact e6,k2,e8⟩,f2⟩⟩
def Sim.lang{p a b:Aut}{prs:List (Int×Int)}(h:Sim p a b prs)(ha:OkA a)(hb:OkA b)(hp:OkA p){w:List Sy}(hw:∀x∈w,Wb a x)(z1:E5 p w=true):E5 a w=true/\E5 b w=true:=by have:=h.go ha hb hp w 0 (0,0) h.first hw (by simpa using(Xn p w).1 z1);exact⟨(Xn a w).2 this.1,(Xn b w).2 this.2⟩
def alive(a:Aut)(s:Int):Prop:=∃w,(∀x∈w,Wb a x)/\Bu a s w
def j0u{a:Aut}{s:Int}(h:a.fin.getD s.toNat false=true):alive a s:=⟨[],by simp,h⟩
def u17{a:Aut}(ha:OkA a){m:Mv}(hm:m∈a.mv)(hv:Wj m.on=false)(h:alive a m.dst):alive a m.src:=by
 obtain⟨w,hw,hf⟩:=h;have hp:=(ha.mv m hm).on.wf;obtain⟨k1,k2,_⟩:=Te hp ((Tw hp).1 hv);have hx:=Uf.1 k1;refine⟨Ql m.on::w,λy hy=>?_,m.dst,We.2 ⟨(ha.mv m hm).dst,m,hm,by simp,(Ej hp.1 _ k1.1).2 k2,rfl⟩,hf⟩;rcases List.mem_cons.1 hy with rfl|hy
 ·exact hx
 exact hw y hy
def q1j{a:Aut}(h:∀w,(∀x∈w,Wb a x)->E5 a w=false):¬alive a 0:=by rintro⟨w,hw,hf⟩;have:=h w hw;rw[(Xn a w).2 hf]at this;cases this
def Ki(a:Aut)(s:Int):List Mv:=a.mv.filter λm=>decide (m.src=s)
def q0w(p q:Prd):Bool:=(Wn p q).all λs=>decide (s.length<=256)
def z0y{T:Nat}{p q:Prd}(hp:PCk T p)(hq:PCk T q)(h:q0w p q=true):PCk T (Wn p q):=by have hw:=Tu hp.wf hq.1;refine⟨hw.1,λs hs=>?_⟩;have h1:=hw.2 s hs;unfold q0w at h;rw[zZ]at h;have h2:=h s hs;exact Sr h1.1 (Mg h1.1 h1.2) (by simpa using h2)
def d0d{T:Nat}{p q:Prd}(hp:PWf T p)(hq:PWf T q){x:Sy}(hx:0<=x.ty):Rk (Wn p q) x=true↔Rk p x=true/\Rk q x=true:=by rw[Ej (Tu hp hq.1).1 x hx,Ej hp.1 x hx,Ej hq.1 x hx,Eo hp.1 hq.1]
structure PrI (a b:Aut) (PS:List (Int×Int)) (F:List Bool) (M:List Mv):Prop where
 first:PS[0]?=some (0,0)
 nd:PS.Nodup
 rg:∀s∈PS,inS a s.1/\inS b s.2
 fin:∀(k:Nat) (s:Int×Int),PS[k]?=some s->F.getD k false=true->a.fin.getD s.1.toNat false=true/\b.fin.getD s.2.toNat false=true
 mv:∀m∈M,(0<=m.src/\0<=m.dst)/\PCk a.types.toNat m.on/\∃(s t:Int×Int) (ma mb:Mv),PS[m.src.toNat]?=some s/\PS[m.dst.toNat]?=some t/\ma∈a.mv/\mb∈b.mv/\ma.src=s.1/\mb.src=s.2/\ma.dst=t.1/\mb.dst=t.2/\∀x,Wb a x->Rk m.on x=true->Rk ma.on x=true/\Rk mb.on x=true
def PrI.start{a b:Aut}(ha:OkA a)(hb:OkA b):PrI a b [(0,0)] [] []:=by
 have h1:=ha.fin;have h2:=hb.fin;refine⟨rfl,by simp,λs hs=>?_,λk s _ hf=>?_,by simp⟩
 ·rw[zO.1 hs];unfold inS;simp only;omega
 simp at hf
def PrI.ps{a b:Aut}{PS:List (Int×Int)}{F:List Bool}{M:List Mv}(h:PrI a b PS F M){t:Int×Int}(ht:inS a t.1/\inS b t.2)(hn:t∉PS)(hF:F.length<=PS.length):PrI a b (PS++[t]) F M:=by
 have hp:∀(k:Nat) (s:Int×Int),PS[k]?=some s->(PS++[t])[k]?=some s:=λk s hk=>by rw[zF (zB.1 hk).1];exact hk
 refine⟨hp _ _ h.first,?_,λs hs=>?_,λk s hk hf=>?_,λm hm=>?_⟩
 ·rw[vw];refine⟨h.nd,by simp,λx hx y hy e=>hn ?_⟩;rw[zO]at hy;rw[<-hy,<-e];exact hx
 ·rcases zT.1 hs with hs|hs
  ·exact h.rg s hs
  rw[zO.1 hs];exact ht
 ·by_cases hk2:k<PS.length
  ·rw[zF hk2]at hk;exact h.fin k s hk hf
  have:F.getD k false=false:=by rw[yQ,yY (by omega)];rfl
  rw[this]at hf;cases hf
 obtain⟨h1,h2,s,u,ma,mb,e1,e2,r⟩:=h.mv m hm;exact⟨h1,h2,s,u,ma,mb,hp _ _ e1,hp _ _ e2,r⟩
def PrI.fn{a b:Aut}{PS:List (Int×Int)}{F:List Bool}{M:List Mv}(h:PrI a b PS F M){s:Int×Int}(hs:PS[F.length]?=some s):PrI a b PS (F++[a.fin.getD s.1.toNat false && b.fin.getD s.2.toNat false]) M:=by
 refine⟨h.first,h.nd,h.rg,λk t hk hf=>?_,h.mv⟩;by_cases hk2:k<F.length
 ·refine h.fin k t hk ?_;rw[yQ,zF hk2]at hf;exact hf
 by_cases hk3:k=F.length
 ·subst hk3;rw[hs]at hk;cases hk;rw[yQ,zH (zR _),Nat.sub_self]at hf;simpa using hf
 rw[yQ,yY (by simp;omega)]at hf;cases hf
def PrI.add {a b:Aut} (ha:OkA a) (hb:OkA b) (ht:b.types=a.types) {PS:List (Int×Int)} {F:List Bool} {M:List Mv} (h:PrI a b PS F M) {i k:Nat} {s:Int×Int} (hi:PS[i]?=some s) {ma mb:Mv} (h1:ma∈a.mv) (h2:mb∈b.mv) (e1:ma.src=s.1) (e2:mb.src=s.2)
  (hk:PS[k]?=some (ma.dst,mb.dst)) (z1:q0w ma.on mb.on=true):PrI a b PS F (M++[⟨i,k,Wn ma.on mb.on⟩]):=by
 refine⟨h.first,h.nd,h.rg,h.fin,λm hm=>?_⟩;rcases zT.1 hm with hm|hm
 ·exact h.mv m hm
 rw[zO.1 hm];have o1:=(ha.mv ma h1).on;have o2:=(hb.mv mb h2).on;rw[ht]at o2;refine⟨⟨by simp only;omega,by simp only;omega⟩,z0y o1 o2 z1,s,(ma.dst,mb.dst),ma,mb,by simpa using hi,by simpa using hk,h1,h2,e1,e2,rfl,rfl,λx hx hh=>(d0d o1.wf o2.wf hx.1.1).1 hh⟩
def PrI.sim{a b:Aut}(ha:OkA a){PS:List (Int×Int)}{F:List Bool}{M:List Mv}(h:PrI a b PS F M)(hl:F.length=PS.length)(h1:PS.length<=256)(h2:M.length<=2048):OkA ⟨a.types,F,M⟩/\Sim ⟨a.types,F,M⟩ a b PS:=by
 refine⟨⟨ha.types,⟨?_,by simpa[hl]using h1⟩,h2,λm hm=>?_⟩,⟨h.first,h.fin,λm hm=>?_⟩⟩
 ·have:=(zB.1 h.first).1;show 1<=F.length;omega
 ·obtain⟨⟨k1,k2⟩,k3,s,t,_,_,e1,e2,_⟩:=h.mv m hm;have l1:=(zB.1 e1).1;have l2:=(zB.1 e2).1;exact⟨⟨k1,by show m.src<(F.length:Int);omega⟩,⟨k2,by show m.dst<(F.length:Int);omega⟩,k3⟩
 obtain⟨_,_,s,t,ma,mb,r⟩:=h.mv m hm;exact⟨s,t,ma,mb,r⟩
section
open Go Go.Proofs
def zip_fst(PS:List (Int×Int))(k:Nat):(PS.zipIdx k).map (·.1)=PS:=by
 induction PS generalizing k with
 |nil=>rfl
 |cons x l ih=>simp[List.zipIdx_cons]
def q1d{PS:List (Int×Int)}{s:Int×Int}{k:Nat}(h:(s,k)∈PS.zipIdx):PS[k]?=some s:=by rw[List.mk_mem_zipIdx_iff_getElem?]at h;exact h
def v2z{PS:List (Int×Int)}(hn:PS.Nodup)(hr:∀s∈PS,okK s):NK PS.zipIdx:=by refine⟨by rw[zip_fst];exact hn,λe he=>hr _ ?_⟩;obtain⟨s,k⟩:=e;exact zJ (q1d he)
def x1o{PS:List (Int×Int)}{s:Int×Int}{k:Nat}(h:lkN PS.zipIdx s=some k):PS[k]?=some s:=by
 unfold lkN at h;obtain⟨e,he,rfl⟩:=zP.1 h;have h1:e.1=s:=by simpa using List.find?_some he
 have h2:=List.mem_of_find?_eq_some he;obtain⟨t,k⟩:=e;simp only at h1;subst h1;exact q1d h2
def j1t{PS:List (Int×Int)}{s:Int×Int}(h:lkN PS.zipIdx s=none):s∉PS:=by rw[F5,zip_fst]at h;exact h
def u1x(PS:List (Int×Int))(s:Int×Int):(PS++[s]).zipIdx=PS.zipIdx++[(s,PS.length)]:=by simp[List.zipIdx_append]
def PrI.okK{a b:Aut}(ha:OkA a)(hb:OkA b){PS:List (Int×Int)}{F:List Bool}{M:List Mv}(h:PrI a b PS F M):∀s∈PS,Go.Abs.okK s:=λs hs=>by have h1:=h.rg s hs;have h2:=ha.fin;have h3:=hb.fin;unfold inS at h1;unfold Go.Abs.okK;omega
def PrI.len{a b:Aut}{PS:List (Int×Int)}{F:List Bool}{M:List Mv}(h:PrI a b PS F M):PS.length<=a.fin.length * b.fin.length:=by
 have hle:=Ts PS ((El a.fin.length).flatMap λx=>(El b.fin.length).map λy=>(x,y)) h.nd λs hs=>by have:=h.rg s hs;unfold inS at this;exact List.mem_flatMap.2 ⟨s.1,Ek.2 ⟨by omega,by omega⟩,zQ.2 ⟨s.2,Ek.2 ⟨by omega,by omega⟩,rfl⟩⟩
 refine yP hle ?_;rw[List.length_flatMap];have:((El a.fin.length).map λx=>((El b.fin.length).map λy=>(x,y)).length)=List.replicate a.fin.length b.fin.length:=by refine List.eq_replicate_iff.2 ⟨by simp[El],λz hz=>?_⟩;obtain⟨x,_,rfl⟩:=zQ.1 hz;simp[El]
 rw[this,List.sum_replicate_nat];exact zR _
end
section
open Go Go.Proofs Go.Maps
def Km(p q:Prd)(i:Nat):List Iv:=Uo (p.getD i []) (q.getD i [])
def Vd(p q:Prd):Prd×Int:=if q0w p q then(Wn p q,0)else([],5)
def Xy{p q:Prd}(h:p.length=q.length):Wn p q=(yU p.length).map (Km p q):=by
 refine List.ext_getElem (by simp[Wn,h]) λi h1 h2=>?_;have hi:i<p.length:=by simpa using h2
 have z1:i<q.length:=by omega
 simp[Wn,Km,hi,z1]
def k06{a b:List Iv}(ha:ckR a=0)(hb:ckR b=0):Hu P5 a b=N5 (Uo a b):=by unfold Hu Js;rw[if_pos ha,if_pos hb,inter_eq]
attribute [simp] g2q
attribute [local irreducible] Hu Uo ckR upL Pk
def j1x(p q:Prd)(i:Nat)(h1:i<p.length)(h2:i<q.length)(k1:ckR (p.getD i [])=0)(k2:ckR (q.getD i [])=0):PC prog 185 [.i i,.iptr [.fn (.func 123) [] []],.iptr [.list (p.map encL)],.iptr [.list (q.map encL)]] (λr=>r=N5 (Km p q i)):=by
 refine pcB func185 results185 ntmps185 ?_;simp only[Qf];have hp:(p.map encL)[i]?=some (encL (p.getD i [])):=by simp[h1]
 have z1:∀hh,(p.map encL)[i]'hh=encL (p.getD i []):=λhh=>(zY hh).2 hp;have hq:(q.map encL)[i]?=some (encL (q.getD i [])):=by simp[h2]
 have z6:∀hh,(q.map encL)[i]'hh=encL (q.getD i []):=λhh=>(zY hh).2 hq;have cI:=Mb (p.getD i []) (q.getD i []);rw[k06 k1 k2]at cI;have hb:Km p q i=Uo (p.getD i []) (q.getD i []):=rfl;rw[hb];generalize p.getD i []=x at *;generalize q.getD i []=y at *
 obtain⟨s,n,e⟩:∃s n,N5 (Uo x y)= .tup [LIv s,.i n]:=by
  unfold N5;split
  ·exact⟨_,_,rfl⟩
  exact⟨[],_,rfl⟩
 rw[e]at cI |-;repeat(refine s_ ?_;simp)
 refine Qo tOk mixed [] (.val 0 (.val 1 (.val 2 (.val 3 (.val 4 (.val 5 (.val 6 (.val 7 (.val 8 (.val 9 (.val 10 (.one 11 (.val 12 (.val 13 (.val 14 (.val 15 (.done))))))))))))))))) rfl (by kernel_rfl) ?_;simp[hp,z1,hq,z6,h1,h2];refine pcL (cI) ?_;simp;repeat(refine s_ ?_;simp)
def f08(l:List Iv):(l.length<=256/\N5 l= .tup [LIv l,.i 0])\/(¬l.length<=256/\N5 l= .tup [.list [],.i 5]):=by
 unfold N5;by_cases h:l.length<=256
 ·exact .inl ⟨h,if_pos h⟩
 exact .inr ⟨h,if_neg h⟩
def v2y{p q:Prd}(h:p.length=q.length)(hk:∀i,i<p.length->(Km p q i).length<=256):Vd p q=(Wn p q,0):=by unfold Vd;rw[if_pos];unfold q0w;rw[Xy h,zZ];intro s hs;obtain⟨i,hi,rfl⟩:=zQ.1 hs;exact decide_eq_true (hk i (xJ.1 hi))
def w2a{p q:Prd}(h:p.length=q.length){i:Nat}(hi:i<p.length)(hk:¬(Km p q i).length<=256):Vd p q=([],5):=by unfold Vd;rw[if_neg];unfold q0w;rw[Xy h,zZ];intro hh;have:=hh (Km p q i) (zQ.2 ⟨i,xJ.2 hi,rfl⟩);exact hk (by simpa using this)
attribute [local irreducible] N5 Vd Km Wn
def q09(p q:Prd)(zb:p.length=q.length)(hn:p.length<=1000)(k1:∀i,i<p.length->ckR (p.getD i [])=0)(k2:∀i,i<q.length->ckR (q.getD i [])=0):PC prog 99 [.i p.length,.fn (.func 185) [] [.iptr [.fn (.func 123) [] []],.iptr [.list (p.map encL)],.iptr [.list (q.map encL)]]] (λr=>r= .tup [encP (Vd p q).1,.i (Vd p q).2]):=by
 refine pcB func99 results99 ntmps99 ?_;simp only[Qf];simp only[encP];obtain⟨A,hA⟩:∃A,Vd p q=A:=⟨_,rfl⟩
 rw[hA];have c1:=λi h=>j1x p q i h (by omega) (k1 i h) (k2 i (by omega));obtain⟨g,hg⟩:∃g,AV.fn (.func 185) [] [.iptr [.fn (.func 123) [] []],.iptr [.list (p.map encL)],.iptr [.list (q.map encL)]]=g:=⟨_,rfl⟩
 obtain⟨T,hT⟩:∃T,p.length=T:=⟨_,rfl⟩
 repeat(refine s_ ?_;simp)
 refine Ep 1 0 145 1 rfl rfl ?_;simp;obtain⟨K,hK⟩:∃K,K=[AObj.vars [AV.nils],AObj.vars [AV.nils]]:=⟨_,rfl⟩
 have hst:=GL.start (K:=K) (S:=1) [] [] 145 1 (by rw[hK];simp);refine Qj (Qc (sl':=[(1,g),(4,.vptr 0 0),(6,.vptr 1 0),(10,.i p.length),(11,.i (0:Nat))]) ?_ (by simp[hg]));refine Qi (F:=λ(u:Nat×Nat×List AObj)=>⟨[(1,g),(4,.vptr 0 0),(6,.vptr 1 0),(10,.i p.length),(11,.i u.1)],u.2.2⟩)
  (λu=>u.1<=p.length/\GL K u.2.2 1 u.2.1 [] [] 145 1 (upL (Km p q) u.1)/\∀i,i<u.1->(Km p q i).length<=256) (λu=>p.length - u.1) ?_ (0,K.length,_) ⟨by simp,by rw[C8,hK]at *;exact hst,λi hi=>by omega⟩
 rintro⟨j,r,H2⟩ ⟨hj,gl,hb⟩ ih;simp only at hj gl hb ih |-;have gR:H2[0]?=some (AObj.vars [AV.nils]):=gl.kp (by decide) (by rw[hK];rfl);have g2:=gl.cell;have g3:=gl.arr;rw[Td]at g2;simp only[List.nil_append]at g2;repeat(refine s_ ?_;simp)
 refine Qb rfl (λzf=>?_) (λzg=>?_)
 ·have z6:j<p.length:=by simpa using zf
  have hw:=wz j (by omega);have cj:=c1 j z6;have z8:∀L:List AObj,(H2.set r .dead++L)[1]?=some (AObj.vars [AV.sl r 1 0 j]):=λL=>by have:=gl.at L;rw[Td]at this;exact this
  have zc:∀(L:List AObj) (h:1<(H2.set r .dead++L).length),(H2.set r .dead++L)[1]'h=AObj.vars [AV.sl r 1 0 j]:=λL h=>by have:=z8 L;rw[zI h]at this;exact Option.some.inj this
  have zd:=λA y=>gl.put A y (Td _ _).symm;have zh:upL (Km p q) j++[encL (Km p q j)]=upL (Km p q) (j+1):=(X3 _ _).symm;have z1:=λH=>ih (j+1,H2.length+1,H);have za:=Td (Km p q) j;simp only[<-zh]at z1;rcases f08 (Km p q j)with⟨hle,e⟩|⟨zi,e⟩
  ·rw[e]at cj;have zj:∀i,i<j+1->(Km p q i).length<=256:=λi hi=>by
    by_cases hij:i=j
    ·rw[hij];exact hle
    exact hb i (by omega)
   subst hg;repeat(refine s_ ?_;simp)
   refine pcL (cj) ?_;simp;repeat(refine s_ ?_;simp)
   refine Qb rfl (λh=>by simp at h) (λ_=>?_);repeat(refine s_ ?_;simp[g2])
   clear cj c1;generalize upL (Km p q) j=xs at *;generalize Km p q j=B at *;refine apS T68 P3 ?_
   simp[Qa g3,Qh g3,za,z8,zc];refine⟨by simp[Wg,Qa g3,Qh g3,za,z8,zc]<;>omega,?_⟩;repeat(refine s_ ?_;simp[g2,hw,z8,zc])
   refine Qc (sl':=[(1,AV.fn (.func 185) [] [.iptr [.fn (.func 123) [] []],.iptr [.list (p.map encL)],.iptr [.list (q.map encL)]]),(4,.vptr 0 0),(6,.vptr 1 0),(10,.i p.length),(11,.i (j+1:Nat))]) (z1 _ ⟨by omega,zd _ _,zj⟩ (by omega)) ?_;simp
  rw[e]at cj;rw[w2a zb z6 zi]at hA;subst hA;subst hg;repeat(refine s_ ?_;simp)
  refine pcL (cj) ?_;simp;repeat(refine s_ ?_;simp)
  refine Qb rfl (λ_=>?_) (λh=>by simp at h);have zk:=Qg gR (.vars [.nils]);repeat(refine s_ ?_;simp[gR,zk])
 have z7:j=p.length:=by simp at zg;omega
 rw[v2y zb (λi hi=>hb i (by omega))]at hA;subst hA;have hS:=(zB.1 g2).1;have zl:r≠0/\r≠1:=by have:=gl.ge;rw[hK]at this;simp at this;omega
 have za:=Td (Km p q) j;have ze: .list (upL (Km p q) j)=AV.list ((Wn p q).map encL):=by rw[M4,z7,Xy zb]
 rw[<-z7];generalize upL (Km p q) j=xs at *;refine Q6 r g3 1 g2 ?_
 have k1:∀X,((H2.set r .dead).set 1 X)[0]?=some (AObj.vars [AV.nils]):=λX=>Qd (by decide) (Qd zl.1 gR _) _;have k2:∀X,((H2.set r .dead).set 1 X)[1]?=some X:=λX=>zK (by simpa using hS);have k3:∀X Y,(((H2.set r .dead).set 1 X).set 0 Y)[0]?=some Y:=λX Y=>Qg (k1 X) _;simp[za];rw[zV (by omega)];repeat(refine s_ ?_;simp[k1,k2,k3])
 exact AV.list.inj ze
attribute [simp] g2x
def u1t(p q:Prd)(z1:p.length=q.length)(ho:Pk [p,q]=0)(hn:p.length<=1000)(k1:∀i,i<p.length->ckR (p.getD i [])=0)(k2:∀i,i<q.length->ckR (q.getD i [])=0):PC prog 122 [encP p,encP q,.fn (.func 123) [] []] (λr=>r= .tup [encP (Vd p q).1,.i (Vd p q).2]):=by
 refine pcB func122 results122 ntmps122 ?_;simp only[Qf];have cC:=Pa [p,q];have cE:=q09 p q z1 hn k1 k2;rw[ho]at cC;generalize Vd p q=A at *;simp only[encP]at cC cE |-;refine Ec 0 0 rfl rfl (λhl=>?_)
 refine Ec 1 0 rfl rfl (λz7=>?_);have z6:yU 2=[0,1]:=rfl;repeat(refine s_ ?_;simp[z6])
 refine Ww 4 rfl ?_;simp;refine pcL (cC) ?_;simp;repeat(refine s_ ?_;simp)
 refine Qb rfl (λh=>by simp at h) (λ_=>?_);repeat(refine s_ ?_;simp)
 refine Qb rfl (λh=>by simp[z1]at h) (λ_=>?_);repeat(refine s_ ?_;simp)
 refine U8 (ys:=[.fn (.func 123) [] []]) 2 (by simp[Q8,AV.pure]) rfl ?_;simp;refine U8 (ys:=[.list (p.map encL)]) 0 (by simp) rfl ?_;simp;refine U8 (ys:=[.list (q.map encL)]) 1 (by simp) rfl ?_;simp;refine pcL (cE) ?_;simp;repeat(refine s_ ?_;simp)
def d1u(p q:Prd)(z1:p.length=q.length)(ho:Pk [p,q]=0)(hn:p.length<=1000)(k1:∀i,i<p.length->ckR (p.getD i [])=0)(k2:∀i,i<q.length->ckR (q.getD i [])=0):PC prog 60 [encP p,encP q] (λr=>r= .tup [encP (Vd p q).1,.i (Vd p q).2]):=by
 refine pcB func60 results60 ntmps60 ?_;simp only[Qf];have cE:=u1t p q z1 ho hn k1 k2;generalize Vd p q=A at *;simp only[encP]at cE |-
 repeat(refine s_ ?_;simp)
 refine pcL (cE) ?_;simp;repeat(refine s_ ?_;simp)
end
section
open Go Go.Proofs
end
section
open Go Go.Proofs
end
section
open Go Go.Proofs
end
section
open Go Go.Proofs Go.Maps
attribute [local irreducible] Wo
def j1q(a b:Aut):PC prog 59 [encA a,encA b] (λr=>r= .i (E9 a b)):=by
 refine pcB func59 results59 ntmps59 ?_;simp only[Qf];have cA:=R6 a;have cB:=R6 b;simp only[encA]at cA cB |-;obtain⟨R,hR⟩:∃R,E9 a b=R:=⟨_,rfl⟩
 rw[hR];unfold E9 at hR;repeat(refine s_ ?_;simp)
 refine pcL (cA) ?_;simp;repeat(refine s_ ?_;simp)
 refine Qb rfl (λh=>?_) (λh=>?_)
 ·rw[if_pos (by simpa using h)]at hR;subst hR;repeat(refine s_ ?_;simp)
 rw[if_neg (by simpa using h)]at hR;repeat(refine s_ ?_;simp)
 refine pcL (cB) ?_;simp;repeat(refine s_ ?_;simp)
 refine Qb rfl (λh2=>?_) (λh2=>?_)
 ·rw[if_pos (by simpa using h2)]at hR;subst hR;repeat(refine s_ ?_;simp)
 rw[if_neg (by simpa using h2)]at hR;repeat(refine s_ ?_;simp)
 refine Qb rfl (λh3=>?_) (λh3=>?_)
 ·rw[if_pos (by simpa using h3)]at hR;subst hR;repeat(refine s_ ?_;simp)
 rw[if_neg (by simpa using h3)]at hR;subst hR;repeat(refine s_ ?_;simp)
end
section
open Go Go.Proofs Go.Maps Go.RowKit
def mvT(a:Aut)(s:Int)(k:Nat):List Mv:=(a.mv.take k).filter λm=>decide (m.src=s)
def k1m(a:Aut)(s:Int):mvT a s 0=[]:=by simp[mvT]
def w2g(a:Aut)(s:Int):mvT a s a.mv.length=Ki a s:=by unfold mvT Ki;rw[yI]
def x17(a:Aut)(s:Int){k:Nat}(h:k<a.mv.length):mvT a s (k+1)=mvT a s k++(if a.mv[k].src=s then [a.mv[k]]else []):=by
 unfold mvT;rw[zU h,u9]
 congr 1
 by_cases e:a.mv[k].src=s<;>simp[e]
def y2a(a:Aut)(s:Int)(k:Nat):∃r,Ki a s=mvT a s k++r:=by refine⟨(a.mv.drop k).filter λm=>decide (m.src=s),?_⟩;unfold mvT Ki;rw[<-u9,List.take_append_drop]
def Av{a:Aut}{s:Int}{m:Mv}:m∈Ki a s↔m∈a.mv/\m.src=s:=by unfold Ki;simp
attribute [local irreducible] mvT Ki
def y0l (a:Aut) (hm:a.mv.length<=1000000) (s:Int) (l:Nat) {z1:Nat} {sl':List (Nat×AV)} {ps:List Tmp} {asg body:Code} (zh:ps.length=1) (zi:(ps.all λp=>decide (p<z1))=true)
  (Inv:List Mv->List AObj->Prop) (Done:Code->List AObj->Prop) (H0:List AObj)
  (hI:∀k H,Inv k H->H[l]?=some (.lp true none z1 sl' ps asg body))
  (z7:∀k H L,Inv k H->Inv k (H++L))
  (z6:∀pre e post H,Ki a s=pre++e::post->Inv pre H->H0.length<=H.length->AWP prog z1 H.length asg (P0 (AWP prog z1 H.length body (Nk l (λjm K2=>(jm=none/\Inv (pre++[e]) (K2.set l (.lp true none z1 sl' ps asg body))/\H.length<=K2.length)\/∃c,jm=some c/\Done c (K2.set l (.lp false (some c) z1 sl' ps asg body))))) (λ_ _=>False)) ⟨E7 sl' ps [encMv e],H.set l .dead⟩)
  (h0:Inv [] H0):FC prog 104 [.yld l,.iptr (Qk a),.iptr [.i s]] H0 (λ_ H'=>(Inv (Ki a s) H'/\H0.length<=H'.length)\/∃c,Done c H'):=by
 refine fcB func104 results104 ntmps104 ?_;simp only[Qf];repeat(refine s_ ?_;simp)
 have hz:=k1m a s;have zb:=w2g a s;have zj:=λk h=>x17 a s (k:=k) h;have zk:=λk=>y2a a s k;refine Qj (Qc (sl':=[(0,.yld l),(1,.iptr (Qk a)),(2,.iptr [.i s]),(7,.list (a.mv.map encMv)),(8,.i a.mv.length),(9,.i (0:Nat))]) ?_ (by simp));refine Qi (P:=prog) (F:=λ(u:Nat×List AObj)=>⟨[(0,.yld l),(1,.iptr (Qk a)),(2,.iptr [.i s]),(7,.list (a.mv.map encMv)),(8,.i a.mv.length),(9,.i u.1)],u.2⟩)
  (λu=>u.1<=a.mv.length/\Inv (mvT a s u.1) u.2/\H0.length<=u.2.length) (λu=>a.mv.length - u.1) ?_ (0,H0) ⟨xI _,by rw[hz];exact h0,zR _⟩
 rintro⟨k,J⟩ ⟨hk,hv,hJ⟩ ih;simp only at hk hv hJ ih |-;repeat(refine s_ ?_;simp)
 refine Qb rfl (λzl=>?_) (λzm=>?_)
 ·have z8:k<a.mv.length:=by simpa using zl
  have hw:=wz k (by omega);have zf:=zj k z8;obtain⟨rr,zc⟩:=zk (k+1);rw[zf]at zc;have za:=λH'=>ih (k+1,H');simp only[zf]at za;repeat(refine s_ ?_;simp[z8])
  generalize a.mv[k]=m at *
  have zd:=z7 _ J [AObj.vars [.i m.src,.i m.dst,.list (m.on.map encL)]] hv;have zg:H0.length<=(J++[AObj.vars [.i m.src,.i m.dst,.list (m.on.map encL)]]).length:=by simp;omega
  have zo:(J++[AObj.vars [.i m.src,.i m.dst,.list (m.on.map encL)]])[J.length]?=some (.vars [.i m.src,.i m.dst,.list (m.on.map encL)]):=by simp
  generalize J++[AObj.vars [.i m.src,.i m.dst,.list (m.on.map encL)]]=J1 at *
  by_cases hms:m.src=s
  ·have hb:(m.src==s)=true:=by simpa using hms
   simp only[hb];rw[if_pos hms]at zc za;have zn:=z6 (mvT a s k) m rr J1 (by rw[zc];simp) zd zg;refine Rn rfl rfl (q:=l) rfl rfl (hI _ _ zd) zh zi rfl (λjm K2=>(jm=none/\Inv (mvT a s k++[m]) (K2.set l (.lp true none z1 sl' ps asg body))/\J1.length<=K2.length)\/∃c,jm=some c/\Done c (K2.set l (.lp false (some c) z1 sl' ps asg body))) zn ?_;rintro jm K2 (⟨rfl,hK,zp⟩|⟨c,rfl,hD⟩)
   ·simp;repeat(refine s_ ?_;simp)
    refine Qb rfl (λh=>by cases h) (λ_=>?_);repeat(refine s_ ?_;simp[hw])
    refine Qc (sl':=[(0,.yld l),(1,.iptr (Qk a)),(2,.iptr [.i s]),(7,.list (a.mv.map encMv)),(8,.i a.mv.length),(9,.i (k+1:Nat))]) ?_ (by simp);exact za _ ⟨by omega,hK,by simp;omega⟩ (by omega)
   simp;repeat(refine s_ ?_;simp)
   refine Qb rfl (λ_=>?_) (λh=>by cases h);repeat(refine s_ ?_;simp)
   exact .inr ⟨c,hD⟩
  have hb:(m.src==s)=false:=by simpa using hms
  simp only[hb];rw[if_neg hms,List.append_nil]at za;refine Wi rfl rfl ?_;simp;repeat(refine s_ ?_;simp)
  refine Qb rfl (λh=>by cases h) (λ_=>?_);repeat(refine s_ ?_;simp[hw])
  refine Qc (sl':=[(0,.yld l),(1,.iptr (Qk a)),(2,.iptr [.i s]),(7,.list (a.mv.map encMv)),(8,.i a.mv.length),(9,.i (k+1:Nat))]) ?_ (by simp);exact za J1 ⟨by omega,zd,zg⟩ (by omega)
 have ze:k=a.mv.length:=by simp at zm;omega
 subst ze;rw[zb]at hv;repeat(refine s_ ?_;simp)
 exact .inl ⟨hv,hJ⟩
end
section
open Go Go.Proofs Go.Maps Go.RowKit
attribute [simp] v2f w2n
def kvD(l:List (Int×Int)):List (AV×AV):=l.map λe=>(.i e.1,.i e.2)
def mpD(l:List (Int×Int)):AObj:= .mp (kvD l)
def q0b{l:List (Int×Int)}(h:∀e∈l,0<=e.1/\e.1<=1000000):∀p∈kvD l,isKey prog 3 p.1:=λp hp=>by obtain⟨e,he,rfl⟩:=zQ.1 hp;exact W2 (h e he)
def q0q{l:List (Int×Int)}{j:Nat}{p:AV×AV}{z:Int}(hp:(kvD l)[j]?=some p)(he:p.1= .i z):∃v,(z,v)∈l/\p.2= .i v:=by
 unfold kvD at hp;rw[zS]at hp;obtain⟨m,hm,rfl⟩:=zP.1 hp;have z1:m.1=z:=by simpa using he
 exact⟨m.2,by rw[<-z1];exact zJ hm,rfl⟩
def q2e{l:List (Int×Int)}{z:Int}(h:∀p∈kvD l,p.1≠ .i z):z∉l.map (·.1):=λhm=>by obtain⟨e,he,rfl⟩:=zQ.1 hm;exact h (.i e.1,.i e.2) (zQ.2 ⟨e,he,rfl⟩) rfl
section
variable {nt k:Nat} {S:AS} {ops:Array Oper} {o:Oper} {R:AS->Prop}
def Hb {wr:Bool} (hw:Qs ops S o=some true) (hd:Wm nt o=true) {x ix:Operand} (ho:o.op= .lookup 113 x ix true) {id:Nat} (hx:rho S.sl x=some (.mref id)) {z:Int} (z1:rho S.sl ix=some (.i z)) {l:List (Int×Int)} (z6:S.hp[id]?=some (mpD l)) (hl:∀e∈l,0<=e.1/\e.1<=1000000) (hn:0<=z/\z<=1000000)
  (z7:∀v,(z,v)∈l->R (S.putD o.dst (.tup [.i v,.bool true]))) (z8:z∉l.map (·.1)->R (S.putD o.dst (.tup [.i 0,.bool false]))):Q9 prog nt k wr ops o S R:=by
 refine Tm tOk hw hd ho w2n rfl T3 R0 hx z1 z6 (W2 hn) (q0b hl) (z:= .i 0) rfl (λj p hp he=>?_) (λza=>?_)
 ·obtain⟨v,h1,h2⟩:=q0q hp he;rw[h2];exact z7 v h1
 exact z8 (q2e za)
def Mh {wr:Bool} (hw:Qs ops S o=some true) (hd:Wm nt o=true) {x ix:Operand} (ho:o.op= .lookup 113 x ix false) {id:Nat} (hx:rho S.sl x=some (.mref id)) {z:Int} (z1:rho S.sl ix=some (.i z)) {l:List (Int×Int)} (z6:S.hp[id]?=some (mpD l)) (hl:∀e∈l,0<=e.1/\e.1<=1000000) (hn:0<=z/\z<=1000000)
  (hR:∀v,R (S.putD o.dst (.i v))):Q9 prog nt k wr ops o S R:=by
 refine I1 tOk hw hd ho w2n rfl T3 R0 hx z1 z6 (W2 hn) (q0b hl) (z:= .i 0) rfl (λj p hp he=>?_) (λz7=>?_)
 ·obtain⟨v,h1,h2⟩:=q0q hp he;rw[h2];exact hR v
 exact hR 0
def Lo (hw:Qs ops S o=some true) (hd:Wm nt o=true) {x ix y:Operand} (ho:o.op= .mapUpdate 113 x ix y) {id:Nat} (hx:rho S.sl x=some (.mref id)) {z:Int} (z1:rho S.sl ix=some (.i z)) {v:Int} (hy:rho S.sl y=some (.i v)) {l:List (Int×Int)} (z6:S.hp[id]?=some (mpD l)) (hl:∀e∈l,0<=e.1/\e.1<=1000000) (hn:0<=z/\z<=1000000)
  (z7:z∉l.map (·.1)) (hR:R (({ S with hp:=S.hp.set id (mpD (l++[(z,v)])) }:AS).putD o.dst (.tup []))):Q9 prog nt k true ops o S R:=by
 refine Ei tOk hw hd ho w2n rfl R0 hx z1 hy (by simp[AV.pure]) z6 (W2 hn) (q0b hl) (λj p hp he=>?_) (λz8=>?_)
 ·obtain⟨u,h1,_⟩:=q0q hp he;exact absurd (zQ.2 ⟨_,h1,rfl⟩) z7
 have:kvD l++[(.i z,.i v)]=kvD (l++[(z,v)]):=by simp[kvD]
 unfold mpD at hR;rw[<-this]at hR;exact hR
def k0u (hw:Qs ops S o=some true) (hd:Wm nt o=true) {x ix y:Operand} (ho:o.op= .insert 109 x ix y) {id:Nat} (hx:rho S.sl x=some (.mref id)) {s:Int×Int} (z1:rho S.sl ix=some (.agg [.i s.1,.i s.2])) {d:Nat} (hy:rho S.sl y=some (.i d))
  (z6:S.hp[id]?=some (.mp [])) (hn:okK s) (hR:R (({ S with hp:=S.hp.set id (mpN [(s,d)]) }:AS).putD o.dst (.tup []))):Q9 prog nt k true ops o S R:=by
 refine Y2 tOk hw hd ho v2f rfl Xw hx z1 hy (by simp[AV.pure]) z6 (Gq hn) (λp hp=>by cases hp) (λj p hp he=>by cases hp) (λz7=>?_);exact hR
end
end
section
open Go Go.Proofs Go.Maps Go.RowKit
attribute [local irreducible] Pk
def c1v{p:Prd}(h0:Pk [p]=0):p.length<=16:=by
 unfold Pk at h0;by_cases hc:Eu p.length p=0
 ·have:=((W3 _ p).1 hc).1;omega
 rw[if_pos hc]at h0;exact absurd h0 hc
def Ct{T:Nat}(hT:1<=T/\T<=16):∀l:List Prd,(∀p∈l,PCk T p)->Pk l=0
 |[],_=>by unfold Pk;rfl
 |p::l,h=>by have hp:=h p (by simp);have hc:Eu p.length p=0:=(W3 _ p).2 ⟨by rw[hp.1];omega,by rw[hp.1];simpa using hp⟩;unfold Pk;rw[if_neg (λk=>k hc)];exact Ct hT l λq hq=>h q (by simp[hq])
def q1h(p:Prd)(h0:Pk [p]=0):PC prog 124 [encP p] (λr=>r= .tup [.bool (Wj p),.i 0]):=by
 have hlen:=c1v h0;refine pcB func124 results124 ntmps124 ?_;simp only[Qf];simp only[encP];repeat(refine s_ ?_;simp)
 refine Y1 3 rfl ?_;simp;refine pcL (Pa [p]) ?_;simp;repeat(refine s_ ?_;simp)
 refine Qb rfl (λh=>by rw[h0]at h;simp at h) (λh=>?_);repeat(refine s_ ?_;simp)
 refine pcL (N8 p) ?_;simp;repeat(refine s_ ?_;simp)
 refine W5 rfl (Rf:=λ_ H'=>4<H'.length/\H'[1]?=some (.vars [.bool false])/\H'[2]?=some (.vars [.i 0])/\((Wj p=true/\∃sl' z6 a' b',H'[4]?=some (.lp true none 15 sl' z6 a' b'))\/(Wj p=false/\∃sl' z6 a' b',H'[4]?=some (.lp false (some Code.ret) 15 sl' z6 a' b')))) ?_ ?_
 ·simp;refine Sd λH1 z7=>?_;have f1:H1[1]?=some (.vars [.bool false]):=by rw[z7];rfl
  have f2:H1[2]?=some (.vars [.i 0]):=by rw[z7];rfl
  have f4:=congrArg (λh:List AObj=>h[4]?) z7;simp at f4;have zb:H1.length=5:=by rw[z7];simp
  clear z7;refine fcB func188 results188 ntmps188 ?_;simp only[Qf];repeat(refine s_ ?_;simp)
  refine Qj (Qc (sl':=[(0,.yld 4),(6,.list (p.map encL)),(7,.i p.length),(8,.i (0:Nat))]) ?_ (by simp));refine Qi (P:=prog) (F:=λ(u:Nat)=>⟨[(0,.yld 4),(6,.list (p.map encL)),(7,.i p.length),(8,.i u)],H1⟩) (λu=>u<=p.length/\∀s∈p.take u,s=[]) (λu=>p.length - u) ?_ 0 ⟨by simp,by simp⟩;rintro j ⟨hj,hE⟩ ih;repeat(refine s_ ?_;simp)
  refine Qb rfl (λzc=>?_) (λzd=>?_)
  ·have z1:j<p.length:=by simpa using zc
   have hw:=wz j (by omega);by_cases hn:p[j]=[]
   ·repeat(refine s_ ?_;simp[z1,hn])
    refine Wi rfl rfl ?_;simp;refine Qr rfl ?_;simp;repeat(refine s_ ?_;simp[hw])
    refine Qc (sl':=[(0,.yld 4),(6,.list (p.map encL)),(7,.i p.length),(8,.i (j+1:Nat))]) (ih (j+1) ⟨by omega,λs hs=>?_⟩ (by omega)) (by simp);rw[zU z1]at hs;rcases zT.1 hs with hs|hs
    ·exact hE s hs
    rw[zO.1 hs];exact hn
   have hv:Wj p=false:=by unfold Wj;rw[List.all_eq_false];exact⟨p[j],zL _,by simpa using hn⟩
   have z8:0<p[j].length:=List.length_pos_iff.2 hn;repeat(refine s_ ?_;simp[z1,z8])
   refine Rn rfl rfl (q:=4) rfl rfl f4 rfl rfl rfl (λjm K2=>jm=some Code.ret/\5<=K2.length/\K2[1]?=some (.vars [.bool false])/\K2[2]?=some (.vars [.i 0])) ?_ ?_
   ·simp[E7];have e1:=Qd (j:=4) (by decide) f1 .dead;have e2:=Qd (j:=4) (by decide) f2 .dead;have e4:=Qg f4 .dead;have e6:(H1.set 4 .dead).length=5:=by simp[zb]
    generalize H1.set 4 .dead=E at *
    have e3:∀y,(E.set 1 y)[2]?=some (.vars [.i 0]):=λy=>Qd (by decide) e2 y;repeat(refine s_ ?_;simp[e1,e2,e3])
    exact⟨Qd (by decide) (Qd (by decide) e4 _) _,rfl,by simp[e6],Qd (by decide) (Qg e1 _) _,Qg (e3 _) _⟩
   rintro jm K2 ⟨rfl,v1,v2,v3⟩;simp;repeat(refine s_ ?_;simp)
   have v6:4<K2.length:=by omega
   refine Qb rfl (λ_=>?_) (λh=>by cases h);repeat(refine s_ ?_;simp)
   exact⟨by omega,v2,v3,.inr ⟨hv,_,_,_,_,zK v6⟩⟩
  have za:j=p.length:=by simp at zd;omega
  subst za;rw[yI]at hE;have hv:Wj p=true:=by unfold Wj;rw[zZ];exact λs hs=>by rw[hE s hs];rfl
  repeat(refine s_ ?_;simp)
  exact⟨by omega,f1,f2,.inl ⟨hv,_,_,_,_,f4⟩⟩
 rintro r H' ⟨hl,k1,k2,⟨hv,sl',z6,a',b',k4⟩|⟨hv,sl',z6,a',b',k4⟩⟩
 ·refine⟨_,_,_,_,_,_,_,k4,?_⟩;simp;have u1:=Qd (j:=4) (by decide) k1 .dead;have u2:=Qd (j:=4) (by decide) k2 .dead;generalize H'.set 4 .dead=E at *
  have u3:∀y,(E.set 1 y)[2]?=some (.vars [.i 0]):=λy=>Qd (by decide) u2 y;have u4:∀y z,((E.set 1 y).set 2 z)[1]?=some y:=λy z=>Qd (by decide) (Qg u1 y) z;have u5:∀y z,((E.set 1 y).set 2 z)[2]?=some z:=λy z=>Qg (u3 y) z;repeat(refine s_ ?_;simp[u1,u2,u3,u4,u5,hv])
 refine⟨_,_,_,_,_,_,_,k4,?_⟩;simp;have u1:=Qd (j:=4) (by decide) k1 .dead;have u2:=Qd (j:=4) (by decide) k2 .dead;generalize H'.set 4 .dead=E at *
 repeat(refine s_ ?_;simp[u1,u2,hv])
def z05(p:Prd)(h0:Pk [p]=0):PC prog 61 [encP p] (λr=>r= .bool (Wj p)):=by
 refine pcB func61 results61 ntmps61 ?_;simp only[Qf];have cE:=q1h p h0;simp only[encP]at cE |-;repeat(refine s_ ?_;simp)
 refine pcL (cE) ?_;simp;repeat(refine s_ ?_;simp)
end
section
open Go Go.Proofs Go.Maps Go.RowKit
def w2i(n:D5):mpN n= .mp (kvN n):=rfl
structure PH (a b:Aut) (PS:List (Int×Int)) (F:List Bool) (M:List Mv) (q f v N i:Nat) (H:List AObj):Prop where
 inv:PrI a b PS F M
 h0:H[0]?=some (.vars (Qk a))
 h1:H[1]?=some (.vars (Qk b))
 h2:H[2]?=some (.vars [.i 0,.nils,.nils])
 h3:H[3]?=some (.vars [.i 0])
 h4:H[4]?=some (mpN PS.zipIdx)
 h5:H[5]?=some (.vars [.mref 4])
 h7:H[7]?=some (.vars [.sl q 2 0 PS.length])
 h8:H[8]?=some (.vars [.i a.types,.sl f 1 0 F.length,.sl v 3 0 M.length])
 hq:H[q]?=some (.arr 66 2 (PS.map pqr))
 hf:H[f]?=some (.arr 4 1 (F.map .bool))
 hv:H[v]?=some (.arr 73 3 (M.map encMv))
 hN:H[N]?=some (.vars [.i i])
 nl:8<N
section
variable {a b:Aut} {PS:List (Int×Int)} {F:List Bool} {M:List Mv} {q f v N i:Nat} {H:List AObj}
theorem PH.app(h:PH a b PS F M q f v N i H)(E:List AObj):PH a b PS F M q f v N i (H++E):=
 ⟨h.inv,Qa h.h0 _,Qa h.h1 _,Qa h.h2 _,Qa h.h3 _,Qa h.h4 _,Qa h.h5 _,Qa h.h7 _,Qa h.h8 _,Qa h.hq _,Qa h.hf _,Qa h.hv _,Qa h.hN _,h.nl⟩
theorem PH.ne(h:PH a b PS F M q f v N i H):(q≠0/\q≠1/\q≠2/\q≠3/\q≠4/\q≠5/\q≠7/\q≠8/\q≠N)/\(f≠0/\f≠1/\f≠2/\f≠3/\f≠4/\f≠5/\f≠7/\f≠8/\f≠N)/\(v≠0/\v≠1/\v≠2/\v≠3/\v≠4/\v≠5/\v≠7/\v≠8/\v≠N):=by
 have k0:=h.h0;have k1:=h.h1;have k2:=h.h2;have k3:=h.h3;have k4:=h.h4;have k5:=h.h5;have k7:=h.h7;have k8:=h.h8;have kN:=h.hN;rw[w2i]at k4;have key:∀ {p e sz:Nat} {xs:List AV},H[p]?=some (.arr e sz xs)->p≠0/\p≠1/\p≠2/\p≠3/\p≠4/\p≠5/\p≠7/\p≠8/\p≠N:=λ{p e sz xs} hp=>by refine⟨?_,?_,?_,?_,?_,?_,?_,?_,?_⟩<;>intro e<;>subst e<;>simp_all
 exact⟨key h.hq,key h.hf,key h.hv⟩
theorem PH.qf(h:PH a b PS F M q f v N i H):q≠f/\q≠v/\f≠v:=by have k1:=h.hq;have k2:=h.hf;have k3:=h.hv;refine⟨?_,?_,?_⟩<;>intro e<;>subst e<;>simp_all
theorem PH.setx(h:PH a b PS F M q f v N i H){j:Nat}(hj:8<j)(hq:j≠q)(hf:j≠f)(hv:j≠v)(hN:j≠N)(x:AObj):PH a b PS F M q f v N i (H.set j x):=
 ⟨h.inv,Qd (by omega) h.h0 _,Qd (by omega) h.h1 _,Qd (by omega) h.h2 _,Qd (by omega) h.h3 _,Qd (by omega) h.h4 _,Qd (by omega) h.h5 _,Qd (by omega) h.h7 _,Qd (by omega) h.h8 _,Qd hq h.hq _,Qd hf h.hf _,Qd hv h.hv _,Qd hN h.hN _,h.nl⟩
theorem PH.cell(h:PH a b PS F M q f v N i H)(j:Nat):PH a b PS F M q f v H.length j (H++[.vars [.i j]]):=
 ⟨h.inv,Qa h.h0 _,Qa h.h1 _,Qa h.h2 _,Qa h.h3 _,Qa h.h4 _,Qa h.h5 _,Qa h.h7 _,Qa h.h8 _,Qa h.hq _,Qa h.hf _,Qa h.hv _,by rw[zH (by simp)];simp,by have:=Qe h.hN;have:=h.nl;omega⟩
theorem PH.off(h:PH a b PS F M q f v N i H){j:Nat}{x:AObj}(hx:H[j]?=some x)(h1:∀e sz xs,x≠ .arr e sz xs):j≠q/\j≠f/\j≠v:=by
 refine⟨λe=>?_,λe=>?_,λe=>?_⟩
 ·rw[e,h.hq]at hx;exact h1 _ _ _ (Option.some.inj hx).symm
 ·rw[e,h.hf]at hx;exact h1 _ _ _ (Option.some.inj hx).symm
 rw[e,h.hv]at hx;exact h1 _ _ _ (Option.some.inj hx).symm
theorem PH.fn (h:PH a b PS F M q f v N i H) {z:Bool} {f':Nat} {Z:List AObj} (hlen:H.length<=Z.length) (hi:PrI a b PS (F++[z]) M)
  (e8:Z[8]?=some (.vars [.i a.types,.sl f' 1 0 (F.length+1),.sl v 3 0 M.length])) (ef:Z[f']?=some (.arr 4 1 (F.map .bool++[.bool z]))) (ek:∀j,j≠8->j≠f->j<H.length->Z[j]? =H[j]?):PH a b PS (F++[z]) M q f' v N i Z:=by
 obtain⟨nq,nf,nv⟩:=h.ne;obtain⟨qf,qv,fv⟩:=h.qf;have z1:=h.nl;exact⟨hi,(ek 0 (by decide) (by omega) (Qe h.h0)).trans h.h0,(ek 1 (by decide) (by omega) (Qe h.h1)).trans h.h1,(ek 2 (by decide) (by omega) (Qe h.h2)).trans h.h2,(ek 3 (by decide) (by omega) (Qe h.h3)).trans h.h3,(ek 4 (by decide) (by omega) (Qe h.h4)).trans h.h4,(ek 5 (by decide) (by omega) (Qe h.h5)).trans h.h5,(ek 7 (by decide) (by omega) (Qe h.h7)).trans h.h7,
  by rw[e8];simp,(ek q (by omega) qf (Qe h.hq)).trans h.hq,by rw[ef];simp,(ek v (by omega) (Ne.symm fv) (Qe h.hv)).trans h.hv,(ek N (by omega) (by omega) (Qe h.hN)).trans h.hN,h.nl⟩
theorem PH.ps (h:PH a b PS F M q f v N i H) {t:Int×Int} {q':Nat} {Z:List AObj} (hlen:H.length<=Z.length) (hi:PrI a b (PS++[t]) F M)
  (e4:Z[4]?=some (mpN (PS++[t]).zipIdx)) (e7:Z[7]?=some (.vars [.sl q' 2 0 (PS.length+1)])) (eq:Z[q']?=some (.arr 66 2 (PS.map pqr++[pqr t]))) (ek:∀j,j≠4->j≠7->j≠q->j<H.length->Z[j]? =H[j]?):PH a b (PS++[t]) F M q' f v N i Z:=by
 obtain⟨nq,nf,nv⟩:=h.ne;obtain⟨qf,qv,fv⟩:=h.qf;have z1:=h.nl;exact⟨hi,(ek 0 (by decide) (by decide) (by omega) (Qe h.h0)).trans h.h0,(ek 1 (by decide) (by decide) (by omega) (Qe h.h1)).trans h.h1,(ek 2 (by decide) (by decide) (by omega) (Qe h.h2)).trans h.h2,(ek 3 (by decide) (by decide) (by omega) (Qe h.h3)).trans h.h3,e4,(ek 5 (by decide) (by decide) (by omega) (Qe h.h5)).trans h.h5,
  by rw[e7];simp,(ek 8 (by decide) (by decide) (by omega) (Qe h.h8)).trans h.h8,by rw[eq];simp,(ek f (by omega) (by omega) (Ne.symm qf) (Qe h.hf)).trans h.hf,(ek v (by omega) (by omega) (Ne.symm qv) (Qe h.hv)).trans h.hv,(ek N (by omega) (by omega) (by omega) (Qe h.hN)).trans h.hN,h.nl⟩
theorem PH.mv (h:PH a b PS F M q f v N i H) {m:Mv} {v':Nat} {Z:List AObj} (hlen:H.length<=Z.length) (hi:PrI a b PS F (M++[m]))
  (e8:Z[8]?=some (.vars [.i a.types,.sl f 1 0 F.length,.sl v' 3 0 (M.length+1)])) (ev:Z[v']?=some (.arr 73 3 (M.map encMv++[encMv m]))) (ek:∀j,j≠8->j≠v->j<H.length->Z[j]? =H[j]?):PH a b PS F (M++[m]) q f v' N i Z:=by
 obtain⟨nq,nf,nv⟩:=h.ne;obtain⟨qf,qv,fv⟩:=h.qf;have z1:=h.nl;exact⟨hi,(ek 0 (by decide) (by omega) (Qe h.h0)).trans h.h0,(ek 1 (by decide) (by omega) (Qe h.h1)).trans h.h1,(ek 2 (by decide) (by omega) (Qe h.h2)).trans h.h2,(ek 3 (by decide) (by omega) (Qe h.h3)).trans h.h3,(ek 4 (by decide) (by omega) (Qe h.h4)).trans h.h4,(ek 5 (by decide) (by omega) (Qe h.h5)).trans h.h5,(ek 7 (by decide) (by omega) (Qe h.h7)).trans h.h7,
  by rw[e8];simp,(ek q (by omega) qv (Qe h.hq)).trans h.hq,(ek f (by omega) fv (Qe h.hf)).trans h.hf,by rw[ev];simp,(ek N (by omega) (by omega) (Qe h.hN)).trans h.hN,h.nl⟩
end
def PrR(a b:Aut)(r:AV):Prop:=r= .tup [encA Ty,.i 5]\/∃p,r= .tup [encA p,.i 0]/\OkA p/\p.types=a.types/\∃prs,Sim p a b prs
end
section
open Go Go.Proofs Go.Maps Go.RowKit
attribute [local irreducible] Ki Vd Wn
def d06{T:Nat}{p:Prd}(h:PCk T p):∀i,i<p.length->ckR (p.getD i [])=0:=λi hi=>by rw[yQ,zI hi];exact(Dy _).2 (h.2 _ (zL hi))
def q0u(a b:Aut)(ha:OkA a)(hb:OkA b)(ht:b.types=a.types):PC prog 19 [encA a,encA b] (λr=>PrR a b r):=by
 refine pcB func19 results19 ntmps19 ?_;simp only[Qf];have cP:=j1q a b;rw[Sn.2 ⟨ha,hb,ht⟩]at cP;simp only[encA]at cP |-;have xg:=ha.fin;have xh:=hb.fin;have wj:=ha.mvs;have wk:=hb.mvs;repeat(refine s_ ?_;simp)
 refine pcL (cP) ?_;simp;repeat(refine s_ ?_;simp)
 refine Qb rfl (λh=>by simp at h) (λ_=>?_);repeat(refine s_ ?_;simp)
 refine Wx rfl rfl rfl ?_;simp;refine k0u rfl rfl rfl rfl (s:=(0,0)) rfl (d:=0) rfl rfl (by unfold okK;decide) ?_;simp;repeat(refine s_ ?_;simp)
 refine Ep 8 1 4 1 rfl rfl ?_;simp;refine Ep 8 2 73 3 rfl rfl ?_;simp;have yz:PH a b [(0,0)] [] [] 6 10 11 9 0 [.vars (Qk a),.vars (Qk b),.vars [.i 0,.nils,.nils],.vars [.i 0],mpN [((0,0),0)],.vars [.mref 4],.arr 66 2 [.agg [.i 0,.i 0]],.vars [.sl 6 2 0 1],.vars [.i a.types,.sl 10 1 0 0,.sl 11 3 0 0],.vars [.i 0],.arr 4 1 [],.arr 73 3 []]:=
  ⟨PrI.start ha hb,rfl,rfl,rfl,rfl,rfl,rfl,rfl,rfl,rfl,rfl,rfl,rfl,by decide⟩
 refine Qj (Qc (sl':=[(2,.vptr 0 0),(3,.vptr 1 0),(4,.vptr 2 0),(5,.vptr 3 0),(7,.vptr 5 0),(8,.vptr 7 0),(9,.vptr 8 0),(10,.vptr 9 0)]) ?_ (by simp));refine Qi (P:=prog) (F:=λ(u:Nat×Nat×Nat×Nat×Nat×List (Int×Int)×List Bool×List Mv×List AObj)=>⟨[(2,.vptr 0 0),(3,.vptr 1 0),(4,.vptr 2 0),(5,.vptr 3 0),(7,.vptr 5 0),(8,.vptr 7 0),(9,.vptr 8 0),(10,.vptr u.2.1 0)],u.2.2.2.2.2.2.2.2⟩)
  (λu=>PH a b u.2.2.2.2.2.1 u.2.2.2.2.2.2.1 u.2.2.2.2.2.2.2.1 u.2.2.1 u.2.2.2.1 u.2.2.2.2.1 u.2.1 u.1 u.2.2.2.2.2.2.2.2/\u.2.2.2.2.2.2.1.length=u.1/\u.1<=u.2.2.2.2.2.1.length/\u.2.2.2.2.2.1.length<=256/\u.2.2.2.2.2.2.2.1.length<=2048) (λu=>257 - u.1) ?_ (0,9,6,10,11,[(0,0)],[],[],_) ⟨yz,rfl,by simp,by simp,by simp⟩
 clear yz;rintro⟨i,N,q,f,v,PS,F,M,H⟩ ⟨hS,yg,hi,x0,x1⟩ ih;simp only at hS yg hi x0 x1 ih |-;repeat(refine s_ ?_;simp[hS.hN,hS.h7])
 refine Qb rfl (λxi=>?_) (λxj=>?_)
 ·have zp:i<PS.length:=by simpa using xi
  obtain⟨s,hs⟩:∃s,PS[i]?=some s:=⟨_,zI zp⟩
  have y6:=hS.inv.rg s (zJ hs);have x2:(PS.map pqr)[i]?=some (.agg [.i s.1,.i s.2]):=by rw[zS,hs];rfl
  have xl:∀hh,(PS.map pqr)[i]'hh= .agg [.i s.1,.i s.2]:=λhh=>(zY hh).2 x2;repeat(refine s_ ?_;simp[hS.hN,hS.h7,hS.hq,x2,xl,zp])
  have z8:=hS.app [.vars [.i s.1,.i s.2]];have zc:(H++[AObj.vars [.i s.1,.i s.2]])[H.length]?=some (.vars [.i s.1,.i s.2]):=by rw[zH (by simp)];simp
  have xn:8<H.length:=by have:=Qe hS.hN;have:=hS.nl;omega
  have wo:H.length≠N:=by have:=Qe hS.hN;omega
  clear hS;generalize H++[AObj.vars [.i s.1,.i s.2]]=Y at *;generalize H.length=x at *;clear H
  obtain⟨fa,zf⟩:∃fa,a.fin.getD s.1.toNat false=fa:=⟨_,rfl⟩
  obtain⟨fb,zg⟩:∃fb,b.fin.getD s.2.toNat false=fb:=⟨_,rfl⟩
  have yh:=y6.1.1;have yi:=y6.1.2;have yj:=y6.2.1;have yk:=y6.2.2;have zq:(a.fin.map AV.bool)[s.1.toNat]?=some (.bool fa):=by
   have:s.1.toNat<a.fin.length:=by omega
   rw[<-zf];simp[yQ,this]
  have y7:∀hh,(a.fin.map AV.bool)[s.1.toNat]'hh= .bool fa:=λhh=>(zY hh).2 zq;have zr:(b.fin.map AV.bool)[s.2.toNat]?=some (.bool fb):=by
   have:s.2.toNat<b.fin.length:=by omega
   rw[<-zg];simp[yQ,this]
  have y9:∀hh,(b.fin.map AV.bool)[s.2.toNat]'hh= .bool fb:=λhh=>(zY hh).2 zr;have zd:a.fin[s.1.toNat]?=some fa:=by
   have:s.1.toNat<a.fin.length:=by omega
   rw[<-zf];simp[yQ,this]
  have ze:b.fin[s.2.toNat]?=some fb:=by
   have:s.2.toNat<b.fin.length:=by omega
   rw[<-zg];simp[yQ,this]
  have zt:=z8.inv.fn (s:=s) (by rw[yg];exact hs);rw[zf,zg]at zt;have y0:=z8.h0;have y1:=z8.h1;have y8:=z8.h8;have yf:=z8.hf;have ya:=z8.off zc (by simp);have zh:(F.map AV.bool).length=F.length:=by simp
  obtain⟨nq,nf,nv⟩:=z8.ne;have y8s:∀E,(Y.set f .dead++E)[8]?=some (.vars [.i a.types,.sl f 1 0 F.length,.sl v 3 0 M.length]):=λE=>Qa (Qd nf.2.2.2.2.2.2.2.1 y8 _) _;refine J6 (P:=prog) tOk mixed [17,19] (.val 0 (.val 1 (.val 2 (.val 3 (.val 4 (.val 5 (.val 6 (.val 7 (.val 8 (.val 9 (.val 10 (.val 11 (.val 12 (.val 13 (.val 14 (.val 15 (.one 16 (.one 17 (.val 18 (.one 19 (.done))))))))))))))))))))) (λS'=>∃f',PH a b PS (F++[fa && fb]) M q f' v N i S'.hp/\S'.hp[x]?=some (.vars [.i s.1,.i s.2])/\look S'.sl 2=some (.vptr 0 0)/\look S'.sl 3=some (.vptr 1 0)/\look S'.sl 4=some (.vptr 2 0)/\look S'.sl 5=some (.vptr 3 0)/\look S'.sl 7=some (.vptr 5 0)/\look S'.sl 8=some (.vptr 7 0)/\look S'.sl 9=some (.vptr 8 0)/\look S'.sl 10=some (.vptr N 0)/\look S'.sl 11=some (.vptr x 0)) rfl (by kernel_rfl) ?_ ?_
  ·have wq:8<Y.length:=Qe y8;have fin8:∀z B,((Y.set f .dead++[AObj.arr 4 1 B,AObj.arr 4 1 (F.map AV.bool++[.bool z])]).set 8 (.vars [.i a.types,.sl (Y.length+1) 1 0 (F.length+1),.sl v 3 0 M.length]))[8]?=some (.vars [.i a.types,.sl (Y.length+1) 1 0 (F.length+1),.sl v 3 0 M.length]):=λz B=>Qg (y8s _) _;have finf:∀z B,((Y.set f .dead++[AObj.arr 4 1 B,AObj.arr 4 1 (F.map AV.bool++[.bool z])]).set 8 (.vars [.i a.types,.sl (Y.length+1) 1 0 (F.length+1),.sl v 3 0 M.length]))[Y.length+1]?=some (.arr 4 1 (F.map AV.bool++[.bool z])):=λz B=>by rw[zE (by omega),zH (by simp)];simp
   have fink:∀z B j,j≠8->j≠f->j<Y.length->((Y.set f .dead++[AObj.arr 4 1 B,AObj.arr 4 1 (F.map AV.bool++[.bool z])]).set 8 (.vars [.i a.types,.sl (Y.length+1) 1 0 (F.length+1),.sl v 3 0 M.length]))[j]? =Y[j]? :=λz B j h1 h2 h3=>by rw[zE (Ne.symm h1),zF (by simpa using h3),zE (Ne.symm h2)]
   have yl:=Qe zc;cases fa
   ·simp[y0,y1,y8,zc,yh,yi,yj,yk,zq,y7,zd,zr,y9,ze];refine apS T22 T4 ?_;simp[Qa yf,Qh yf,zh,y8s];refine⟨by simp[Wg,Qa yf,Qh yf,zh,y8s]<;>omega,?_⟩;exact⟨⟨Y.length+1,z8.fn (by simp) zt (fin8 _ _) (finf _ _) (fink _ _)⟩,(fink _ _ x (by omega) ya.2.1 yl).trans zc⟩
   cases fb
   ·simp[y0,y1,y8,zc,yh,yi,yj,yk,zq,y7,zd,zr,y9,ze];refine apS T22 T4 ?_;simp[Qa yf,Qh yf,zh,y8s];refine⟨by simp[Wg,Qa yf,Qh yf,zh,y8s]<;>omega,?_⟩;exact⟨⟨Y.length+1,z8.fn (by simp) zt (fin8 _ _) (finf _ _) (fink _ _)⟩,(fink _ _ x (by omega) ya.2.1 yl).trans zc⟩
   simp[y0,y1,y8,zc,yh,yi,yj,yk,zq,y7,zd,zr,y9,ze];refine apS T22 T4 ?_;simp[Qa yf,Qh yf,zh,y8s];refine⟨by simp[Wg,Qa yf,Qh yf,zh,y8s]<;>omega,?_⟩;exact⟨⟨Y.length+1,z8.fn (by simp) zt (fin8 _ _) (finf _ _) (fink _ _)⟩,(fink _ _ x (by omega) ya.2.1 yl).trans zc⟩
  rintro⟨sl,E⟩ ⟨f',hE,ex,s2,s3,s4,s5,s7,s8,s9,s10,s11⟩;simp only at hE ex s2 s3 s4 s5 s7 s8 s9 s10 s11 |-;refine Qn (sl':=[(2,.vptr 0 0),(3,.vptr 1 0),(4,.vptr 2 0),(5,.vptr 3 0),(7,.vptr 5 0),(8,.vptr 7 0),(9,.vptr 8 0),(10,.vptr N 0),(11,.vptr x 0)]) ?_ (by simp[s2,s3,s4,s5,s7,s8,s9,s10,s11]);clear s2 s3 s4 s5 s7 s8 s9 s10 s11 z8 zc y0 y1 y8 yf ya zh nq nf nv zt zq y7 zr y9 zd ze;clear y8s;have ym:(F++[fa && fb]).length=i+1:=by simp[yg]
  generalize F++[fa && fb]=F1 at *
  have e0:=hE.h0;have e1:=hE.h1;have cFa:=w0e a s.1;have cFb:=w0e b s.2;simp only[encA]at cFa cFb;repeat(refine s_ ?_;simp[e0,ex])
  refine pcL (cFa) ?_;simp;repeat(refine s_ ?_;simp)
  have wu:=Qe hE.hN;have wv:=Qe ex;refine W5 rfl (Rf:=λ_ H'=>(∃q' v' PS' M',PH a b PS' F1 M' q' f' v' N i H'/\PS.length<=PS'.length/\M'.length<=10000000/\∃sl' z7 a' b',H'[E.length]?=some (.lp true none 130 sl' z7 a' b'))\/(H'[2]?=some (.vars [.i 0,.nils,.nils])/\H'[3]?=some (.vars [.i 5])/\∃sl' z7 a' b',H'[E.length]?=some (.lp false (some Code.ret) 130 sl' z7 a' b'))) ?_ ?_
  ·simp;refine Sd λH1 zu=>?_;have fS:PH a b PS F1 M q f' v N i H1:=by rw[zu];exact hE.app _
   have fx:H1[x]?=some (.vars [.i s.1,.i s.2]):=by rw[zu];exact Qa ex _
   have fl:H1.length=E.length+1:=by rw[zu];simp
   have fq:=congrArg (λh:List AObj=>h[E.length]?) zu;simp at fq;clear zu;have xo:=fS.nl;refine FC.mono (y0l a (by omega) s.1 E.length (by rfl) (by rfl)
    (λpre K=>∃q' v' PS' M',PH a b PS' F1 M' q' f' v' N i K/\PS'[i]?=some s/\PS.length<=PS'.length/\M'.length<=2048+pre.length * 2048/\K[x]?=some (.vars [.i s.1,.i s.2])/\K[E.length]? =H1[E.length]?)
    (λc K=>c=Code.ret/\K[2]?=some (.vars [.i 0,.nils,.nils])/\K[3]?=some (.vars [.i 5])/\∃sl' z7 a' b',K[E.length]?=some (.lp false (some Code.ret) 130 sl' z7 a' b'))
    H1 (λpre K ⟨q',v',PS',M',h1,h2,h3,h4,h5,h6⟩=>h6.trans fq)
    (λpre K L ⟨q',v',PS',M',h1,h2,h3,h4,h5,h6⟩=>⟨q',v',PS',M',h1.app L,h2,h3,h4,Qa h5 L,by rw[<-h6,zF (Qe (h6.trans fq))]⟩) ?_ ⟨q,v,PS,M,fS,hs,zR _,by simp;omega,fx,rfl⟩) ?_
   ·rintro pre m post K heq ⟨q',v',PS',M',yn,xp,yo,wy,kx,xq⟩ hlen1;simp[E7];have h8:=xq.trans fq;have hlo:=yn.off h8 (by simp);have x3:E.length≠N:=by omega
    have x4:E.length≠x:=by omega
    have hd:=yn.setx (j:=E.length) (by omega) hlo.1 hlo.2.1 hlo.2.2 x3 .dead;have d6:=Qg h8 .dead;have dx:=Qd x4 kx .dead;have dl:(K.set E.length .dead).length=K.length:=by simp
    generalize K.set E.length .dead=Z at *
    have x5:=λL=>hd.app L;have z1:=λL=>(x5 L).h1;have zx:=λL=>Qa (G:=L) dx;repeat(refine s_ ?_;simp[z1,zx])
    refine pcL (cFb) ?_;simp;repeat(refine s_ ?_;simp)
    refine Q4 λW hW=>?_;have wS:PH a b PS' F1 M' q' f' v' N i W:=by rw[hW];exact hd.app _
    have wm:W[Z.length]?=some (.vars [.i m.src,.i m.dst,.list (m.on.map encL)]):=by rw[hW,zH (by simp)];simp
    have wx:W[x]?=some (.vars [.i s.1,.i s.2]):=by rw[hW];exact Qa dx _
    have w6:W[E.length]?=some .dead:=by rw[hW];exact Qa d6 _
    have wl:W.length=Z.length+1:=by rw[hW];simp
    have v8:=Qe d6;have xr:=(ha.mv m (Av.1 (by rw[heq];simp)).1)
    have x6:m.src=s.1:=(Av.1 (by rw[heq];simp:m∈Ki a s.1)).2;have zm:m∈a.mv:=(Av.1 (by rw[heq];simp:m∈Ki a s.1)).1;clear hW yn hd x5 z1 zx;refine W5 rfl (Rf:=λ_ H'=>(∃q'' v'' PS'' M'',PH a b PS'' F1 M'' q'' f' v'' N i H'/\PS''[i]?=some s/\PS.length<=PS''.length/\M''.length<=2048+(pre.length+1) * 2048/\H'[x]?=some (.vars [.i s.1,.i s.2])/\H'[E.length]?=some .dead/\K.length<=H'.length/\∃sl' z7 a' b',H'[W.length]?=some (.lp true none 130 sl' z7 a' b'))\/(H'[2]?=some (.vars [.i 0,.nils,.nils])/\H'[3]?=some (.vars [.i 5])/\H'[E.length]?=some .dead/\∃sl' z7 a' b',H'[W.length]?=some (.lp false (some Code.ret) 130 sl' z7 a' b'))) ?_ ?_
    ·simp;refine Sd λH2 zi=>?_;have gS:PH a b PS' F1 M' q' f' v' N i H2:=by rw[zi];exact wS.app _
     have gm:H2[Z.length]?=some (.vars [.i m.src,.i m.dst,.list (m.on.map encL)]):=by rw[zi];exact Qa wm _
     have gx:H2[x]?=some (.vars [.i s.1,.i s.2]):=by rw[zi];exact Qa wx _
     have g6:H2[E.length]?=some .dead:=by rw[zi];exact Qa w6 _
     have gl:H2.length=W.length+1:=by rw[zi];simp
     have gq:=congrArg (λh:List AObj=>h[W.length]?) zi;simp at gq;clear zi;refine FC.mono (y0l b (by omega) s.2 W.length (by rfl) (by rfl)
      (λzv K2=>∃q'' v'' PS'' M'',PH a b PS'' F1 M'' q'' f' v'' N i K2/\PS''[i]?=some s/\PS.length<=PS''.length/\M''.length<=2048+pre.length * 2048+zv.length/\K2[Z.length]?=some (.vars [.i m.src,.i m.dst,.list (m.on.map encL)])/\K2[x]?=some (.vars [.i s.1,.i s.2])/\K2[E.length]?=some .dead/\K2[W.length]? =H2[W.length]?)
      (λc K2=>c=Code.ret/\K2[2]?=some (.vars [.i 0,.nils,.nils])/\K2[3]?=some (.vars [.i 5])/\K2[E.length]?=some .dead/\∃sl' z7 a' b',K2[W.length]?=some (.lp false (some Code.ret) 130 sl' z7 a' b'))
      H2 (λzv K2 ⟨q'',v'',PS'',M'',h1,h2,h3,h4,h5,h6,h7,h8⟩=>h8.trans gq)
      (λzv K2 L ⟨q'',v'',PS'',M'',h1,h2,h3,h4,h5,h6,h7,h8⟩=>⟨q'',v'',PS'',M'',h1.app L,h2,h3,h4,Qa h5 L,Qa h6 L,Qa h7 L,by rw[<-h8,zF (Qe (h8.trans gq))]⟩) ?_ ⟨q',v',PS',M',gS,xp,yo,by simp;omega,gm,gx,g6,rfl⟩) ?_
     ·rintro zv n pos2 K2 zj ⟨q'',v'',PS'',M'',x7,yb,zw,vb,km,xt,k6,yp⟩ hlen2;simp[E7];have yc:n∈b.mv:=(Av.1 (by rw[zj];simp:n∈Ki b s.2)).1;have x9:n.src=s.2:=(Av.1 (by rw[zj];simp:n∈Ki b s.2)).2;have xu:pre.length<=2048:=by
       have h1:(Ki a s.1).length<=a.mv.length:=by unfold Ki;exact yX _ _
       rw[heq]at h1;simp at h1;omega
      have xw:zv.length<=2048:=by
       have h1:(Ki b s.2).length<=b.mv.length:=by unfold Ki;exact yX _ _
       rw[zj]at h1;simp at h1;omega
      have h9:=yp.trans gq;have z6:=x7.off h9 (by simp);have zn:W.length≠N:=by omega
      have zo:W.length≠x:=by omega
      have zb:W.length≠E.length:=by omega
      have yd:W.length≠Z.length:=by omega
      have hd:=x7.setx (j:=W.length) (by omega) z6.1 z6.2.1 z6.2.2 zn .dead;have dW:=Qg h9 .dead;have yq:=Qd zo xt .dead;have dE:=Qd zb k6 .dead;have dm:=Qd yd km .dead;have vc:(K2.set W.length .dead).length=K2.length:=by simp
      generalize K2.set W.length .dead=Y at *
      have o1:=(ha.mv m zm).on;have o2:=(hb.mv n yc).on;rw[ht]at o2;have xa:1<=a.types.toNat/\a.types.toNat<=16:=by have:=ha.types;omega
      have xy:m.on.length=n.on.length:=by rw[o1.1,o2.1]
      have yr:=Ct xa [m.on,n.on] (λp hp=>by simp at hp;rcases hp with rfl|rfl;exact o1;exact o2);have cA:=d1u m.on n.on xy yr (by rw[o1.1];omega) (d06 o1) (d06 o2);simp only[encP]at cA;repeat(refine s_ ?_;simp[Qa dm])
      rcases zy:q0w m.on n.on with _|_
      ·have hA:Vd m.on n.on=([],5):=by unfold Vd;rw[zy];rfl
       rw[hA]at cA;refine pcL (cA) ?_;simp;repeat(refine s_ ?_;simp)
       refine Qb rfl (λ_=>?_) (λh=>by simp at h);have b2:=λL=>(hd.app L).h2;have b3:=λL=>(hd.app L).h3;repeat(refine s_ ?_;simp[b2,b3])
       have vd:8<W.length:=by omega
       exact⟨Qd (by omega) (Qd (by omega) (Qa dW _) _) _,.inr ⟨_,rfl,rfl,Qd (by omega) (Qd (by decide) (Qg (b2 _) _) _) _,Qd (by omega) (Qg (Qd (by decide) (b3 _) _) _) _,Qd zb (Qd (by omega) (Qd (by omega) (Qa dE _) _) _) _,_,_,_,_,Qg (Qd (by omega) (Qd (by omega) (Qa dW _) _) _) _⟩⟩
      have hA:Vd m.on n.on=(Wn m.on n.on,0):=by unfold Vd;rw[zy];rfl
      rw[hA]at cA;have xz:=z0y o1 o2 zy;have cV:=z05 (Wn m.on n.on) (Ct xa [Wn m.on n.on] (λp hp=>by simp at hp;rw[hp];exact xz));simp only[encP]at cV;refine pcL (cA) ?_;simp;repeat(refine s_ ?_;simp)
      refine Qb rfl (λh=>by simp at h) (λ_=>?_);repeat(refine s_ ?_;simp)
      refine pcL (cV) ?_;simp;refine Qb rfl (λhv=>?_) (λhv=>?_)
      ·repeat(refine s_ ?_;simp)
       exact⟨Qa dW _,.inl ⟨rfl,⟨⟨q'',v'',PS'',M'',(hd.app _).setx (by omega) z6.1 z6.2.1 z6.2.2 zn _,yb,zw,by first|omega|(simp;omega),Qd yd (Qa dm _) _,Qd zo (Qa yq _) _,Qd zb (Qa dE _) _,by rw[gq];exact Qg (Qa dW _) _⟩,by first|omega|(simp;omega)⟩⟩⟩
      refine Qn (sl':=[(2,.vptr 0 0),(3,.vptr 1 0),(4,.vptr 2 0),(5,.vptr 3 0),(7,.vptr 5 0),(8,.vptr 7 0),(9,.vptr 8 0),(10,.vptr N 0),(11,.vptr x 0),(12,.vptr Z.length 0),(13,.vptr Y.length 0),(14,.vptr (Y.length+1) 0)]) ?_ (by simp);have b5:=λL=>(hd.app L).h5;repeat(refine s_ ?_;simp[Qa dm,b5])
      have xb:=v2z hd.inv.nd (hd.inv.okK ha hb);have w0:=(ha.mv m zm).dst;have yt:=(hb.mv n yc).dst;have zz:okK (m.dst,n.dst):=by unfold okK;simp only;omega
      obtain⟨o,ho⟩:∃o,lkN PS''.zipIdx (m.dst,n.dst)=o:=⟨_,rfl⟩
      refine U2 rfl rfl rfl rfl (s:=(m.dst,n.dst)) rfl (hd.app _).h4 xb zz ?_;rw[ho];cases o with
      |some k=>
       have hk:=x1o ho;simp;repeat(refine s_ ?_;simp)
       refine Qb rfl (λh=>by simp at h) (λ_=>?_);refine Qn (sl':=[(2,.vptr 0 0),(3,.vptr 1 0),(4,.vptr 2 0),(5,.vptr 3 0),(7,.vptr 5 0),(8,.vptr 7 0),(9,.vptr 8 0),(10,.vptr N 0),(11,.vptr x 0),(12,.vptr Z.length 0),(13,.vptr Y.length 0),(14,.vptr (Y.length+1) 0),(17,.i k)]) ?_ (by simp);refine Q4 λU hU=>?_;have hP:PH a b PS'' F1 M'' q'' f' v'' N i U:=by rw[hU];exact hd.app _
       have un:U[Y.length+1]?=some (.vars [.list ((Wn m.on n.on).map encL)]):=by rw[hU,zH (by simp)];simp
       have uW:U[W.length]?=some .dead:=by rw[hU];exact Qa dW _
       have uE:U[E.length]?=some .dead:=by rw[hU];exact Qa dE _
       have um:U[Z.length]?=some (.vars [.i m.src,.i m.dst,.list (m.on.map encL)]):=by rw[hU];exact Qa dm _
       have ux:U[x]?=some (.vars [.i s.1,.i s.2]):=by rw[hU];exact Qa yq _
       have w1:Y.length<=U.length:=by rw[hU];simp
       have y2:=yb;have zk:=zw;clear hU;have u8:=hP.h8;have uN:=hP.hN;obtain⟨w2,w3,yu⟩:=hP.ne;obtain⟨w4,w5,w7⟩:=hP.qf;have yv:=Qe u8;have u8s:∀L,(U.set v'' .dead++L)[8]?=some (.vars [.i a.types,.sl f' 1 0 F1.length,.sl v'' 3 0 M''.length]):=λL=>Qa (Qd yu.2.2.2.2.2.2.2.1 u8 _) _;have y3:(M''.map encMv).length=M''.length:=by simp
       repeat(refine s_ ?_;simp[u8,uN,un])
       refine apS T23 T73 ?_;simp[Qa hP.hv,Qh hP.hv,y3,u8s];refine⟨by simp[Wg,Qa hP.hv,Qh hP.hv,y3,u8s]<;>omega,?_⟩;obtain⟨X,hX⟩:∃X,X=(U.set v'' .dead++[AObj.arr 73 3 [.agg [.i i,.i k,.list ((Wn m.on n.on).map encL)]],AObj.arr 73 3 (M''.map encMv++[.agg [.i i,.i k,.list ((Wn m.on n.on).map encL)]])]).set 8 (.vars [.i a.types,.sl f' 1 0 F1.length,.sl (U.length+1) 3 0 (M''.length+1)]):=⟨_,rfl⟩
       rw[<-hX];have x8:X[8]?=some (.vars [.i a.types,.sl f' 1 0 F1.length,.sl (U.length+1) 3 0 (M''.length+1)]):=by rw[hX];exact Qg (u8s _) _
       have xv:X[U.length+1]?=some (.arr 73 3 (M''.map encMv++[encMv ⟨i,k,Wn m.on n.on⟩])):=by rw[hX,zE (by omega),zH (by simp)];simp
       have xk:∀j,j≠8->j≠v''->j<U.length->X[j]? =U[j]? :=λj h1 h2 h3=>by rw[hX,zE (Ne.symm h1),zF (by simpa using h3),zE (Ne.symm h2)]
       have yw:U.length<=X.length:=by rw[hX];simp
       clear hX;have za:=hP.mv (m:=⟨i,k,Wn m.on n.on⟩) yw (hP.inv.add ha hb ht y2 zm yc x6 x9 hk zy) x8 xv xk;have oW:=hP.off uW (by simp);have oE:=hP.off uE (by simp);have om:=hP.off um (by simp);have ox:=hP.off ux (by simp);have xW:=(xk W.length (by omega) oW.2.2 (Qe uW)).trans uW;have xE:=(xk E.length (by omega) oE.2.2 (Qe uE)).trans uE;have xm:=(xk Z.length (by omega) om.2.2 (Qe um)).trans um;have xx:=(xk x (by omega) ox.2.2 (Qe ux)).trans ux;have oX:=za.off xW (by simp);exact⟨xW,.inl ⟨rfl,⟨⟨_,_,_,_,za.setx (by omega) oX.1 oX.2.1 oX.2.2 zn _,y2,zk,by simp;omega,Qd yd xm _,Qd zo xx _,Qd zb xE _,by rw[gq];exact Qg xW _⟩,by simp;omega⟩⟩⟩
      |none=>
       have y4:=j1t ho;simp;repeat(refine s_ ?_;simp)
       refine Qb rfl (λ_=>?_) (λh=>by simp at h);have b7:=λL=>(hd.app L).h7;have ve:=λL=>(hd.app L).h5;repeat(refine s_ ?_;simp[b7,b5])
       refine Zl rfl rfl rfl rfl (s:=(m.dst,n.dst)) rfl (d:=PS''.length) rfl (hd.app _).h4 xb zz (by rw[zip_fst];exact y4) ?_;simp;rw[<-u1x];refine Q4 λV hV=>?_;obtain⟨nq,nf,nv⟩:=hd.ne;have vf:=Qe hd.h4;have w8:=Qe hd.h7;have v4:V[4]?=some (mpN (PS''++[(m.dst,n.dst)]).zipIdx):=by rw[hV];exact Qg (Qa hd.h4 _) _
       have vk:∀j,j≠4->j<Y.length->V[j]? =Y[j]? :=λj h1 h2=>by rw[hV,zE (Ne.symm h1),zF h2]
       have v7:=(vk 7 (by decide) w8).trans hd.h7;have vq:=(vk q'' nq.2.2.2.2.1 (Qe hd.hq)).trans hd.hq;have vt:V[Y.length+2]?=some (.vars [.i m.dst,.i n.dst]):=by rw[hV,zE (by omega),zH (by simp)];simp
       have vn:V[Y.length+1]?=some (.vars [.list ((Wn m.on n.on).map encL)]):=by rw[hV,zE (by omega),zH (by simp)];simp
       have vl:V.length=Y.length+3:=by rw[hV];simp
       clear hV;have xc:(PS''.map pqr).length=PS''.length:=by simp
       have v7s:∀L,(V.set q'' .dead++L)[7]?=some (.vars [.sl q'' 2 0 PS''.length]):=λL=>Qa (Qd nq.2.2.2.2.2.2.1 v7 _) _;have w9:PS''.length<=65536:=yP hd.inv.len (yP (Nat.mul_le_mul xg.2 xh.2) (by decide));repeat(refine s_ ?_;simp[v7,vt])
       refine apS T41 T66 ?_;simp[Qa vq,Qh vq,xc,v7s];refine⟨by simp[Wg,Qa vq,Qh vq,xc,v7s]<;>omega,?_⟩;refine Qn (sl':=[(2,.vptr 0 0),(3,.vptr 1 0),(4,.vptr 2 0),(5,.vptr 3 0),(7,.vptr 5 0),(8,.vptr 7 0),(9,.vptr 8 0),(10,.vptr N 0),(11,.vptr x 0),(12,.vptr Z.length 0),(13,.vptr Y.length 0),(14,.vptr (Y.length+1) 0),(17,.i PS''.length)]) ?_ (by simp);obtain⟨k,ye⟩:∃k,k=PS''.length:=⟨_,rfl⟩
       rw[<-ye];refine Q4 λU hU=>?_;have yx:F1.length<=PS''.length:=by omega
       have e7:U[7]?=some (.vars [.sl (V.length+1) 2 0 (PS''.length+1)]):=by rw[hU,ye];exact Qg (v7s _) _
       have wa:U[V.length+1]?=some (.arr 66 2 (PS''.map pqr++[pqr (m.dst,n.dst)])):=by rw[hU,zE (by omega),zH (by simp)];simp[pqr]
       have ek:∀j,j≠7->j≠q''->j<V.length->U[j]? =V[j]? :=λj h1 h2 h3=>by rw[hU,zE (Ne.symm h1),zF (by simpa using h3),zE (Ne.symm h2)]
       have vg:V.length<=U.length:=by rw[hU];simp
       clear hU;have u4:U[4]?=some (mpN (PS''++[(m.dst,n.dst)]).zipIdx):=(ek 4 (by decide) (Ne.symm nq.2.2.2.2.1) (by omega)).trans v4;have wb:PrI a b (PS''++[(m.dst,n.dst)]) F1 M'':=hd.inv.ps ⟨w0,yt⟩ y4 yx;have hP:PH a b (PS''++[(m.dst,n.dst)]) F1 M'' (V.length+1) f' v'' N i U:=hd.ps (t:=(m.dst,n.dst)) (by omega) wb u4 e7 wa (λj h1 h2 h3 h4=>(ek j h2 h3 (by omega)).trans (vk j h1 h4));have lift:∀ {j:Nat} {o:AObj},Y[j]?=some o->(∀e sz xs,o≠ .arr e sz xs)->8<j->U[j]?=some o:=λ{j o} h1 h2 h3=>by have h4:=hd.off h1 h2;exact(ek j (by omega) h4.1 (by have:=Qe h1;omega)).trans ((vk j (by omega) (Qe h1)).trans h1)
       have vh:q''<V.length:=by have:=Qe hd.hq;omega
       have yy:Y.length+1≠q'':=by have:=Qe hd.hq;omega
       have un:U[Y.length+1]?=some (.vars [.list ((Wn m.on n.on).map encL)]):=(ek _ (by omega) yy (by omega)).trans vn;have uW:U[W.length]?=some .dead:=lift dW (by simp) (by omega);have uE:U[E.length]?=some .dead:=lift dE (by simp) (by omega);have um:U[Z.length]?=some (.vars [.i m.src,.i m.dst,.list (m.on.map encL)]):=lift dm (by simp) (by omega);have ux:U[x]?=some (.vars [.i s.1,.i s.2]):=lift yq (by simp) xn;have w1:Y.length<=U.length:=by omega
       have hk:(PS''++[(m.dst,n.dst)])[k]?=some (m.dst,n.dst):=by rw[ye,zH (by simp)];simp
       have y2:(PS''++[(m.dst,n.dst)])[i]?=some s:=by rw[zF (zB.1 yb).1];exact yb
       have zk:PS.length<=(PS''++[(m.dst,n.dst)]).length:=by simp;omega
       clear ye vk ek;have u8:=hP.h8;have uN:=hP.hN;obtain⟨w2,w3,yu⟩:=hP.ne;obtain⟨w4,w5,w7⟩:=hP.qf;have yv:=Qe u8;have u8s:∀L,(U.set v'' .dead++L)[8]?=some (.vars [.i a.types,.sl f' 1 0 F1.length,.sl v'' 3 0 M''.length]):=λL=>Qa (Qd yu.2.2.2.2.2.2.2.1 u8 _) _;have y3:(M''.map encMv).length=M''.length:=by simp
       repeat(refine s_ ?_;simp[u8,uN,un])
       refine apS T23 T73 ?_;simp[Qa hP.hv,Qh hP.hv,y3,u8s];refine⟨by simp[Wg,Qa hP.hv,Qh hP.hv,y3,u8s]<;>omega,?_⟩;obtain⟨X,hX⟩:∃X,X=(U.set v'' .dead++[AObj.arr 73 3 [.agg [.i i,.i k,.list ((Wn m.on n.on).map encL)]],AObj.arr 73 3 (M''.map encMv++[.agg [.i i,.i k,.list ((Wn m.on n.on).map encL)]])]).set 8 (.vars [.i a.types,.sl f' 1 0 F1.length,.sl (U.length+1) 3 0 (M''.length+1)]):=⟨_,rfl⟩
       rw[<-hX];have x8:X[8]?=some (.vars [.i a.types,.sl f' 1 0 F1.length,.sl (U.length+1) 3 0 (M''.length+1)]):=by rw[hX];exact Qg (u8s _) _
       have xv:X[U.length+1]?=some (.arr 73 3 (M''.map encMv++[encMv ⟨i,k,Wn m.on n.on⟩])):=by rw[hX,zE (by omega),zH (by simp)];simp
       have xk:∀j,j≠8->j≠v''->j<U.length->X[j]? =U[j]? :=λj h1 h2 h3=>by rw[hX,zE (Ne.symm h1),zF (by simpa using h3),zE (Ne.symm h2)]
       have yw:U.length<=X.length:=by rw[hX];simp
       clear hX;have za:=hP.mv (m:=⟨i,k,Wn m.on n.on⟩) yw (hP.inv.add ha hb ht y2 zm yc x6 x9 hk zy) x8 xv xk;have oW:=hP.off uW (by simp);have oE:=hP.off uE (by simp);have om:=hP.off um (by simp);have ox:=hP.off ux (by simp);have xW:=(xk W.length (by omega) oW.2.2 (Qe uW)).trans uW;have xE:=(xk E.length (by omega) oE.2.2 (Qe uE)).trans uE;have xm:=(xk Z.length (by omega) om.2.2 (Qe um)).trans um;have xx:=(xk x (by omega) ox.2.2 (Qe ux)).trans ux;have oX:=za.off xW (by simp);exact⟨xW,.inl ⟨rfl,⟨⟨_,_,_,_,za.setx (by omega) oX.1 oX.2.1 oX.2.2 zn _,y2,zk,by simp;omega,Qd yd xm _,Qd zo xx _,Qd zb xE _,by rw[gq];exact Qg xW _⟩,by simp;omega⟩⟩⟩
     rintro _ H' (⟨⟨q'',v'',PS'',M'',h1,h2,h3,h4,h5,h6,h7,h8⟩,h9⟩|⟨c,rfl,h2,h3,h4,h5⟩)
     ·refine .inl ⟨q'',v'',PS'',M'',h1,h2,h3,?_,h6,h7,by omega,_,_,_,_,h8.trans gq⟩;have wc:(Ki b s.2).length<=b.mv.length:=by unfold Ki;exact yX _ _
      omega
     exact .inr ⟨h2,h3,h4,h5⟩
    rintro _ H' (⟨q'',v'',PS'',M'',h1,h2,h3,h4,h6,h7,h8,sl',z7,a',b',h9⟩|⟨h2,h3,h4,sl',z7,a',b',h5⟩)
    ·refine⟨true,none,_,_,_,_,_,by simpa using h9,?_⟩;simp;have z6:=h1.off h9 (by simp);have zn:W.length≠N:=by omega
     have zo:W.length≠x:=by omega
     have zb:W.length≠E.length:=by omega
     have k1:=h1.setx (j:=W.length) (by omega) z6.1 z6.2.1 z6.2.2 zn .dead;have k7:=Qd zb h7 .dead;have k6:=Qd zo h6 .dead;have kl:(H'.set W.length .dead).length=H'.length:=by simp
     generalize H'.set W.length .dead=J at *
     have zl:=k1.off k7 (by simp);have we:K.length<=J.length:=by rw[kl];exact h8
     exact⟨k7,.inl ⟨rfl,⟨⟨q'',v'',PS'',M'',k1.setx (by omega) zl.1 zl.2.1 zl.2.2 x3 _,h2,h3,by first|omega|(simp;omega),Qd x4 k6 _,by rw[fq];exact Qg k7 _⟩,we⟩⟩⟩
    refine⟨false,some Code.ret,_,_,_,_,_,by simpa using h5,?_⟩;simp;repeat(refine s_ ?_;simp)
    have zb:W.length≠E.length:=by omega
    exact⟨Qd zb h4 _,.inr ⟨_,rfl,rfl,Qd (by omega) (Qd (by omega) h2 _) _,Qd (by omega) (Qd (by omega) h3 _) _,_,_,_,_,Qg (Qd zb h4 _) _⟩⟩
   rintro _ H' (⟨⟨q',v',PS',M',h1,h2,h3,h4,h5,h6⟩,h7⟩|⟨c,rfl,h2,h3,h4⟩)
   ·refine .inl ⟨q',v',PS',M',h1,h3,?_,_,_,_,_,h6.trans fq⟩;have wc:(Ki a s.1).length<=a.mv.length:=by unfold Ki;exact yX _ _
    omega
   exact .inr ⟨h2,h3,h4⟩
  rintro _ H' (⟨q',v',PS',M',h1,h2,h3,sl',z7,a',b',h4⟩|⟨h2,h3,sl',z7,a',b',h4⟩)
  ·refine⟨true,none,_,_,_,_,_,by simpa using h4,?_⟩;simp;have hlo:=h1.off h4 (by simp);have xo:=h1.nl;have k1:=h1.setx (j:=E.length) (by omega) hlo.1 hlo.2.1 hlo.2.2 (by omega) .dead;clear h1 h4 hlo;generalize H'.set E.length .dead=J at *;refine Qn (sl':=[(2,.vptr 0 0),(3,.vptr 1 0),(4,.vptr 2 0),(5,.vptr 3 0),(7,.vptr 5 0),(8,.vptr 7 0),(9,.vptr 8 0),(10,.vptr N 0)]) ?_ (by simp)
   have j7:=k1.h7;have j8:=k1.h8;have jN:=k1.hN;have j2:=k1.h2;have j3:=k1.h3;have j22:∀y,(J.set 2 y)[2]?=some y:=λy=>Qg j2 y;have j23:∀y,(J.set 2 y)[3]?=some (.vars [.i 0]):=λy=>Qd (by decide) j3 y;have j32:∀y z,((J.set 2 y).set 3 z)[2]?=some y:=λy z=>Qd (by decide) (j22 y) z;have j33:∀y z,((J.set 2 y).set 3 z)[3]?=some z:=λy z=>Qg (j23 y) z;by_cases c1:256<PS'.length
   ·repeat(refine s_ ?_;simp[j7,j8,c1])
    refine Qb rfl (λ_=>?_) (λh=>by first|(simp at h;done)|(simp at h;omega));repeat(refine s_ ?_;simp[j2,j3,j22,j23,j32,j33])
    exact .inl rfl
   by_cases c2:2048<M'.length
   ·repeat(refine s_ ?_;simp[j7,j8,c1,c2])
    refine Qb rfl (λ_=>?_) (λh=>by first|(simp at h;done)|(simp at h;omega));repeat(refine s_ ?_;simp[j2,j3,j22,j23,j32,j33])
    exact .inl rfl
   repeat(refine s_ ?_;simp[j7,j8,c1,c2])
   refine Qb rfl (λh=>by first|(simp at h;done)|(simp at h;omega)) (λ_=>?_);have hw:=wz i (by omega);repeat(refine s_ ?_;simp[jN,hw])
   refine Qc (sl':=[(2,.vptr 0 0),(3,.vptr 1 0),(4,.vptr 2 0),(5,.vptr 3 0),(7,.vptr 5 0),(8,.vptr 7 0),(9,.vptr 8 0),(10,.vptr J.length 0)]) ?_ (by simp);exact ih (i+1,J.length,q',f',v',PS',F1,M',_) ⟨k1.cell (i+1),ym,by simp only;omega,by simp only;omega,by simp only;omega⟩ (by simp only;omega)
  refine⟨false,some Code.ret,_,_,_,_,_,by simpa using h4,?_⟩;simp;have k2:=Qd (j:=E.length) (by omega) h2 .dead;have k3:=Qd (j:=E.length) (by omega) h3 .dead;repeat(refine s_ ?_;simp[k2,k3])
  exact .inl rfl
 have wg:i=PS.length:=by simp at xj;omega
 have h8:=hS.h8;have y5:=hS.inv.sim ha (by omega) x0 x1;obtain⟨_,nf,nv⟩:=hS.ne;have wh:=hS.qf.2.2;refine Qn (sl':=[(4,.vptr 2 0),(5,.vptr 3 0),(9,.vptr 8 0)]) ?_ (by simp);have wi:sm F.length (F.map AV.bool)=F.map AV.bool:=zV (by simp);have zm:sm M.length (M.map encMv)=M.map encMv:=zV (by simp);refine Q6 f hS.hf 8 hS.h8 ?_;simp;rw[wi];have g8:∀y,((H.set f .dead).set 8 y)[8]?=some y:=λy=>Qg (Qd nf.2.2.2.2.2.2.2.1 hS.h8 _) _;have gv:∀y,((H.set f .dead).set 8 y)[v]?=some (.arr 73 3 (M.map encMv)):=λy=>Qd (Ne.symm nv.2.2.2.2.2.2.2.1) (Qd wh hS.hv _) _;have g2:∀y,((H.set f .dead).set 8 y)[2]?=some (.vars [.i 0,.nils,.nils]):=λy=>Qd (by decide) (Qd nf.2.2.1 hS.h2 _) _;have g3:∀y,((H.set f .dead).set 8 y)[3]?=some (.vars [.i 0]):=λy=>Qd (by decide) (Qd nf.2.2.2.1 hS.h3 _) _;refine Q6 v (gv _) 8 (g8 _) ?_;simp;rw[zm];have xd:∀y z,((((H.set f .dead).set 8 y).set v .dead).set 8 z)[8]?=some z:=λy z=>Qg (Qd nv.2.2.2.2.2.2.2.1 (g8 y) _) _;have xe:∀y z,((((H.set f .dead).set 8 y).set v .dead).set 8 z)[2]?=some (.vars [.i 0,.nils,.nils]):=λy z=>Qd (by decide) (Qd nv.2.2.1 (g2 y) _) _;have xf:∀y z,((((H.set f .dead).set 8 y).set v .dead).set 8 z)[3]?=some (.vars [.i 0]):=λy z=>Qd (by decide) (Qd nv.2.2.2.1 (g3 y) _) _;refine Q4 λK hK=>?_;have k8:K[8]?=some (.vars [.i a.types,.list (F.map .bool),.list (M.map encMv)]):=by rw[hK];exact xd _ _
 have k2:K[2]?=some (.vars [.i 0,.nils,.nils]):=by rw[hK];exact xe _ _
 have k3:K[3]?=some (.vars [.i 0]):=by rw[hK];exact xf _ _
 have k22:∀y,(K.set 2 y)[2]?=some y:=λy=>Qg k2 y;have k23:∀y,(K.set 2 y)[3]?=some (.vars [.i 0]):=λy=>Qd (by decide) k3 y;have k32:∀y z,((K.set 2 y).set 3 z)[2]?=some y:=λy z=>Qd (by decide) (k22 y) z;have k33:∀y z,((K.set 2 y).set 3 z)[3]?=some z:=λy z=>Qg (k23 y) z;clear hK xd xe xf g8 gv g2 g3;repeat(refine s_ ?_;simp[k8,k2,k3,k22,k23,k32,k33])
 exact .inr ⟨⟨a.types,F,M⟩,rfl,y5.1,rfl,PS,y5.2⟩
end
section
open Go Go.Proofs Go.Maps Go.RowKit
end
section
open Go Go.Proofs Go.Maps Go.RowKit
attribute [local irreducible] Wc Yp
end
section
open Go Go.Proofs Go.Maps Go.RowKit
structure DsI (a:Aut) (L:List (Int×Int)):Prop where
 nd:(L.map (·.1)).Nodup
 rg:∀e∈L,inS a e.1
 al:∀e∈L,alive a e.1
def DsI.nil(a:Aut):DsI a []:=⟨by simp,by simp,by simp⟩
def DsI.add{a:Aut}{L:List (Int×Int)}(h:DsI a L){z v:Int}(hn:z∉L.map (·.1))(hr:inS a z)(hl:alive a z):DsI a (L++[(z,v)]):=by
 refine⟨?_,λe he=>?_,λe he=>?_⟩
 ·rw[yR,vw];refine⟨h.nd,by simp,λx hx y hy e=>hn ?_⟩;have z1:y=z:=by simpa using hy
  rw[<-z1,<-e];exact hx
 ·rcases zT.1 he with he|he
  ·exact h.rg e he
  rw[zO.1 he];exact hr
 rcases zT.1 he with he|he
 ·exact h.al e he
 rw[zO.1 he];exact hl
def DsI.len{a:Aut}{L:List (Int×Int)}(h:DsI a L):L.length<=a.fin.length:=by
 have:=h.nd.length_le_of_subset (l₂:=El a.fin.length) λc hx=>by obtain⟨e,he,rfl⟩:=zQ.1 hx;exact Ek.2 (h.rg e he)
 simpa[El]using this
def DsI.key{a:Aut}(ha:OkA a){L:List (Int×Int)}(h:DsI a L):∀e∈L,0<=e.1/\e.1<=1000000:=λe he=>by have h1:=h.rg e he;have h2:=ha.fin;unfold inS at h1;omega
structure TdI (a:Aut) (L:List (Int×Int)) (xs:List Int) (off len:Nat):Prop where
 ln:off+len=xs.length
 al:∀z∈xs,alive a z/\z∈L.map (·.1)
 bd:xs.length<=L.length
def k1l(a:Aut)(ha:OkA a):FC prog 62 [encA a] [.vars (Qk a)] (λr H'=>∃id L,r= .mref id/\H'[0]?=some (.vars (Qk a))/\H'[id]?=some (mpD L)/\DsI a L):=by
 refine fcB func62 results62 ntmps62 ?_;simp only[Qf];simp only[encA];have y2:=ha.fin;have ya:=ha.mvs;repeat(refine s_ ?_;simp)
 refine Fg rfl rfl rfl ?_;simp;repeat(refine s_ ?_;simp)
 refine Wx rfl rfl rfl ?_;simp;repeat(refine s_ ?_;simp)
 refine Q3 4 3 1 rfl ?_;simp;refine Qj (Qc (sl':=[(1,.vptr 1 0),(3,.mref 2),(4,.sl 3 1 0 (0:Nat)),(13,.list (a.fin.map .bool)),(14,.i a.fin.length),(15,.i (0:Nat))]) ?_ (by simp));refine Qi (P:=prog) (F:=λ(u:Nat×Nat×List (Int×Int)×List AObj)=>⟨[(1,.vptr 1 0),(3,.mref 2),(4,.sl u.2.1 1 0 u.2.2.1.length),(13,.list (a.fin.map .bool)),(14,.i a.fin.length),(15,.i u.1)],u.2.2.2⟩)
  (λu=>u.1<=a.fin.length/\(∀e∈u.2.2.1,e.1<u.1)/\DsI a u.2.2.1/\u.2.2.2[0]?=some (.vars (Qk a))/\u.2.2.2[1]?=some (.vars (Qk a))/\u.2.2.2[2]?=some (mpD u.2.2.1)/\u.2.2.2[u.2.1]?=some (.arr 3 1 ((u.2.2.1.map (·.1)).map AV.i))/\2<u.2.1) (λu=>a.fin.length - u.1) ?_ (0,3,[],_) ⟨xI _,by simp,DsI.nil a,rfl,rfl,rfl,rfl,by simp⟩
 rintro⟨i,q,L,H⟩ ⟨hi,z8,hD,g0,g1,g2,gq,hq⟩ ih;simp only at hi z8 hD g0 g1 g2 gq hq ih |-;repeat(refine s_ ?_;simp)
 refine Qb rfl (λzb=>?_) (λze=>?_)
 ·have z6:i<a.fin.length:=by simpa using zb
  have hw:=wz i (by omega);obtain⟨fz,zt⟩:∃fz,a.fin[i]=fz:=⟨_,rfl⟩
  have zf:fz=true->alive a (i:Int):=λh=>j0u (by simp[yQ,z6,zt,h]);have zu:=hD.len;repeat(refine s_ ?_;simp[z6,zt])
  cases fz with
  |false=>
   refine Qb rfl (λh=>by simp at h) (λ_=>?_);repeat(refine s_ ?_;simp[hw])
   refine Qc (sl':=[(1,.vptr 1 0),(3,.mref 2),(4,.sl q 1 0 L.length),(13,.list (a.fin.map .bool)),(14,.i a.fin.length),(15,.i (i+1:Nat))]) ?_ (by simp);exact ih (i+1,q,L,H) ⟨by simp only;omega,λe he=>by have:=z8 e he;simp only;omega,hD,g0,g1,g2,gq,hq⟩ (by simp only;omega)
  |true=>
   refine Qb rfl (λ_=>?_) (λh=>by simp at h);have hn:(i:Int)∉L.map (·.1):=λhm=>by obtain⟨e,he,h⟩:=zQ.1 hm;have:=z8 e he;omega
   have zm:=hD.add (v:=0) hn ⟨by omega,by omega⟩ (zf rfl);repeat(refine s_ ?_;simp)
   refine Lo rfl rfl rfl rfl (z:=i) rfl (v:=0) rfl g2 (hD.key ha) (by omega) hn ?_;simp;refine Q4 λK hK=>?_;have k0:K[0]?=some (.vars (Qk a)):=by rw[hK];exact Qd (by decide) g0 _
   have k1:K[1]?=some (.vars (Qk a)):=by rw[hK];exact Qd (by decide) g1 _
   have k2:K[2]?=some (mpD (L++[((i:Int),0)])):=by rw[hK];exact Qg g2 _
   have kq:K[q]?=some (.arr 3 1 ((L.map (·.1)).map AV.i)):=by rw[hK];exact Qd (by omega) gq _
   have hm:((L.map (·.1)).map AV.i).length=L.length:=by simp
   clear hK;repeat(refine s_ ?_;simp)
   refine apS T47 T3 ?_;simp[Qa kq,Qh kq,hm];refine⟨by simp[Wg,Qa kq,Qh kq,hm]<;>omega,?_⟩;repeat(refine s_ ?_;simp[hw])
   refine Qc (sl':=[(1,.vptr 1 0),(3,.mref 2),(4,.sl (K.length+1) 1 0 (L.length+1)),(13,.list (a.fin.map .bool)),(14,.i a.fin.length),(15,.i (i+1:Nat))]) ?_ (by simp);have:=ih (i+1,K.length+1,L++[((i:Int),0)],K.set q .dead++[.arr 3 1 [.i i],.arr 3 1 ((L.map (·.1)).map AV.i++[.i i])]) ⟨by simp only;omega,λe he=>?_,zm,Qa (Qd (by omega) k0 _) _,Qa (Qd (by omega) k1 _) _,Qa (Qd (by omega) k2 _) _,?_,by simp only;have:=Qe kq;omega⟩ (by simp only;omega)
   ·simpa using this
   ·rcases zT.1 he with he|he
    ·have:=z8 e he;simp only;omega
    rw[zO.1 he];simp only;omega
   simp only;rw[zH (by simp)];simp
 have zn:i=a.fin.length:=by simp at ze;omega
 clear ih;have zu:=hD.len;obtain⟨xs,zc⟩:∃xs,xs=L.map (·.1):=⟨_,rfl⟩
 rw[<-zc]at gq;have hT:TdI a L xs 0 L.length:=⟨by rw[zc];simp,λz hz=>⟨by rw[zc]at hz;obtain⟨e,he,rfl⟩:=zQ.1 hz;exact hD.al e he,by rw[zc]at hz;exact hz⟩,by rw[zc];simp⟩
 refine Qn (sl':=[(1,.vptr 1 0),(3,.mref 2),(4,.sl q 1 0 L.length)]) ?_ (by simp);repeat(refine s_ ?_;simp)
 refine Qj (Qc (sl':=[(1,.vptr 1 0),(3,.mref 2),(4,.sl q 1 0 L.length)]) ?_ (by simp));refine Qi (P:=prog) (F:=λ(u:Nat×List (Int×Int)×Nat×Nat×Nat×List Int×List AObj)=>⟨[(1,.vptr 1 0),(3,.mref 2),(4,.sl u.2.2.1 1 u.2.2.2.1 u.2.2.2.2.1)],u.2.2.2.2.2.2⟩)
  (λu=>u.1+u.2.1.length=a.fin.length+u.2.2.2.2.1/\DsI a u.2.1/\TdI a u.2.1 u.2.2.2.2.2.1 u.2.2.2.1 u.2.2.2.2.1/\u.2.2.2.2.2.2[0]?=some (.vars (Qk a))/\u.2.2.2.2.2.2[1]?=some (.vars (Qk a))/\u.2.2.2.2.2.2[2]?=some (mpD u.2.1)/\u.2.2.2.2.2.2[u.2.2.1]?=some (.arr 3 1 (u.2.2.2.2.2.1.map AV.i))/\2<u.2.2.1) (λu=>u.1) ?_ (a.fin.length,L,q,0,L.length,xs,H) ⟨rfl,hD,hT,g0,g1,g2,gq,hq⟩
 clear hD hT g0 g1 g2 gq hq zc z8 zu zn ze hi;clear L q xs H i;rintro⟨μ,L,q,off,len,xs,H⟩ ⟨hμ,hD,hT,g0,g1,g2,gq,hq⟩ ih;simp only at hμ hD hT g0 g1 g2 gq hq ih |-;repeat(refine s_ ?_;simp)
 refine Qb rfl (λzb=>?_) (λze=>?_)
 ·have z7:0<len:=by simpa using zb
  have z1:off<xs.length:=by have:=hT.ln;omega
  obtain⟨z,hz⟩:∃z,xs[off]?=some z:=⟨_,zI z1⟩
  obtain⟨yb,zv⟩:=hT.al z (zJ hz);have zw:inS a z:=by obtain⟨e,he,rfl⟩:=zQ.1 zv;exact hD.rg e he
  repeat(refine s_ ?_;simp[g1])
  refine Qj (Qc (sl':=[(1,.vptr 1 0),(3,.mref 2),(4,.sl q 1 off len),(34,.list (a.mv.map encMv)),(35,.i a.mv.length),(36,.i (0:Nat))]) ?_ (by simp));refine Qi (P:=prog) (F:=λ(u:Nat×List (Int×Int)×Nat×Nat×Nat×List Int×List AObj)=>⟨[(1,.vptr 1 0),(3,.mref 2),(4,.sl u.2.2.1 1 u.2.2.2.1 u.2.2.2.2.1),(34,.list (a.mv.map encMv)),(35,.i a.mv.length),(36,.i u.1)],u.2.2.2.2.2.2⟩)
   (λu=>u.1<=a.mv.length/\μ+u.2.1.length=a.fin.length+u.2.2.2.2.1/\0<u.2.2.2.2.1/\u.2.2.2.2.2.1[u.2.2.2.1]?=some z/\DsI a u.2.1/\TdI a u.2.1 u.2.2.2.2.2.1 u.2.2.2.1 u.2.2.2.2.1/\u.2.2.2.2.2.2[0]?=some (.vars (Qk a))/\u.2.2.2.2.2.2[1]?=some (.vars (Qk a))/\u.2.2.2.2.2.2[2]?=some (mpD u.2.1)/\u.2.2.2.2.2.2[u.2.2.1]?=some (.arr 3 1 (u.2.2.2.2.2.1.map AV.i))/\2<u.2.2.1) (λu=>a.mv.length - u.1) ?_ (0,L,q,off,len,xs,H) ⟨xI _,hμ,z7,hz,hD,hT,g0,g1,g2,gq,hq⟩
  clear hD hT g0 g1 g2 gq hq hz zv z1 z7 zb hμ;clear L q off len xs H;rintro⟨j,L,q,off,len,xs,H⟩ ⟨hj,hμ,z7,hz,hD,hT,g0,g1,g2,gq,hq⟩ ih2;simp only at hj hμ z7 hz hD hT g0 g1 g2 gq hq ih2 |-;repeat(refine s_ ?_;simp)
  refine Qb rfl (λzb=>?_) (λze=>?_)
  ·have z6:j<a.mv.length:=by simpa using zb
   have hw:=wz j (by omega);have zx:=zL z6;have zy:(a.mv.map encMv)[j]?=some (encMv a.mv[j]):=by simp[z6]
   have zz:∀hh,(a.mv.map encMv)[j]'hh=encMv a.mv[j]:=λhh=>by simp
   generalize a.mv[j]=m at *;simp only[encMv]at zy zz
   have y0:=ha.mv m zx;have zo:=y0.src;repeat(refine s_ ?_;simp[zy,zz,z6])
   have zd:(xs.map AV.i)[off]?=some (.i z):=by rw[zS,hz];rfl
   have zg:∀hh,(xs.map AV.i)[off]'hh= .i z:=λhh=>(zY hh).2 zd;have y3:=y2.2;have z1:off<xs.length:=(zB.1 hz).1;refine Hb rfl rfl rfl rfl rfl (Qa g2 _) (hD.key ha) (by omega) (λv hv=>?_) (λhn=>?_)
   ·simp;refine Q4 λK hK=>?_;have k0:K[0]?=some (.vars (Qk a)):=by rw[hK];exact Qa g0 _
    have k1:K[1]?=some (.vars (Qk a)):=by rw[hK];exact Qa g1 _
    have k2:K[2]?=some (mpD L):=by rw[hK];exact Qa g2 _
    have kq:K[q]?=some (.arr 3 1 (xs.map AV.i)):=by rw[hK];exact Qa gq _
    have kx:K[H.length]?=some (.vars [.i m.src,.i m.dst,.list (m.on.map encL)]):=by rw[hK,zH (by simp)];simp
    have y4:2<H.length:=Qe g2;clear hK g0 g1 g2 gq;repeat(refine s_ ?_;simp)
    by_cases hdz:m.dst=z
    ·have hb:(m.dst==z)=true:=by simpa using hdz
     refine Qo tOk mixed [] (.val 0 (.val 1 (.val 2 (.val 3 (.val 4 (.val 5 (.val 6 (.val 7 (.val 8 (.val 9 (.val 10 (.val 11 (.val 12 (.one 13 (.val 14 (.val 15 (.done))))))))))))))))) rfl (by kernel_rfl) ?_;simp[kx,kq,zd,zg,hb,z7,z1];refine Wi rfl rfl ?_;simp;refine Qb rfl (λh=>by simp at h) (λ_=>?_);repeat(refine s_ ?_;simp[hw])
     refine Qc (sl':=[(1,.vptr 1 0),(3,.mref 2),(4,.sl q 1 off len),(34,.list (a.mv.map encMv)),(35,.i a.mv.length),(36,.i (j+1:Nat))]) ?_ (by simp);exact ih2 (j+1,L,q,off,len,xs,K) ⟨by simp only;omega,hμ,z7,hz,hD,hT,k0,k1,k2,kq,hq⟩ (by simp only;omega)
    have hb:(m.dst==z)=false:=by simpa using hdz
    refine Qo tOk mixed [] (.val 0 (.val 1 (.val 2 (.val 3 (.val 4 (.val 5 (.val 6 (.val 7 (.val 8 (.val 9 (.val 10 (.val 11 (.val 12 (.one 13 (.val 14 (.val 15 (.done))))))))))))))))) rfl (by kernel_rfl) ?_;simp[kx,kq,zd,zg,hb,z7,z1];refine Wi rfl rfl ?_;simp;refine Qb rfl (λh=>by simp at h) (λ_=>?_);repeat(refine s_ ?_;simp[hw])
    refine Qc (sl':=[(1,.vptr 1 0),(3,.mref 2),(4,.sl q 1 off len),(34,.list (a.mv.map encMv)),(35,.i a.mv.length),(36,.i (j+1:Nat))]) ?_ (by simp);exact ih2 (j+1,L,q,off,len,xs,K) ⟨by simp only;omega,hμ,z7,hz,hD,hT,k0,k1,k2,kq,hq⟩ (by simp only;omega)
   simp;refine Q4 λK hK=>?_;have k0:K[0]?=some (.vars (Qk a)):=by rw[hK];exact Qa g0 _
   have k1:K[1]?=some (.vars (Qk a)):=by rw[hK];exact Qa g1 _
   have k2:K[2]?=some (mpD L):=by rw[hK];exact Qa g2 _
   have kq:K[q]?=some (.arr 3 1 (xs.map AV.i)):=by rw[hK];exact Qa gq _
   have kx:K[H.length]?=some (.vars [.i m.src,.i m.dst,.list (m.on.map encL)]):=by rw[hK,zH (by simp)];simp
   have y4:2<H.length:=Qe g2;clear hK g0 g1 g2 gq;repeat(refine s_ ?_;simp)
   by_cases hdz:m.dst=z
   ·have hb:(m.dst==z)=true:=by simpa using hdz
    have zp:Pk [m.on]=0:=Ct (T:=a.types.toNat) (by have:=ha.types;omega) [m.on] (λp hp=>by rw[zO.1 hp];exact y0.on);have cV:=z05 m.on zp;simp only[encP]at cV;have zf:=λh=>u17 ha zx h (by rw[hdz];exact(hT.al z (zJ hz)).1);obtain⟨vd,y5⟩:∃vd,Wj m.on=vd:=⟨_,rfl⟩
    rw[y5]at cV zf;refine Qo tOk mixed [] (.val 0 (.val 1 (.val 2 (.val 3 (.val 4 (.val 5 (.val 6 (.val 7 (.val 8 (.val 9 (.val 10 (.val 11 (.val 12 (.one 13 (.val 14 (.val 15 (.done))))))))))))))))) rfl (by kernel_rfl) ?_;simp[kx,kq,zd,zg,hb,z7,z1];refine pcL (cV) ?_;simp;cases vd with
    |true=>
     refine Qb rfl (λh=>by simp at h) (λ_=>?_);repeat(refine s_ ?_;simp[hw])
     refine Qc (sl':=[(1,.vptr 1 0),(3,.mref 2),(4,.sl q 1 off len),(34,.list (a.mv.map encMv)),(35,.i a.mv.length),(36,.i (j+1:Nat))]) ?_ (by simp);exact ih2 (j+1,L,q,off,len,xs,K) ⟨by simp only;omega,hμ,z7,hz,hD,hT,k0,k1,k2,kq,hq⟩ (by simp only;omega)
    |false=>
     have zm:=λv=>hD.add (v:=v) hn zo (zf rfl);have y6:=hD.len;refine Qb rfl (λ_=>?_) (λh=>by simp at h);refine Qn (sl':=[(1,.vptr 1 0),(3,.mref 2),(4,.sl q 1 off len),(8,.vptr H.length 0),(34,.list (a.mv.map encMv)),(35,.i a.mv.length),(36,.i j)]) ?_ (by simp);have yc:=zw.1;have yd:=zw.2;repeat(refine s_ ?_;simp)
     refine Qo tOk mixed [9] (.val 0 (.val 1 (.val 2 (.val 3 (.val 4 (.val 5 (.val 6 (.one 7 (.val 8 (.one 9 (.done))))))))))) rfl (by kernel_rfl) ?_;simp[kx,kq,zd,zg,z7,z1];refine Mh rfl rfl rfl rfl rfl k2 (hD.key ha) (by omega) (λv=>?_);simp;refine Lo rfl rfl rfl rfl (z:=m.src) rfl (v:=IntKind.i64.wrap (v+1)) rfl k2 (hD.key ha) (by have:=zo.1;have:=zo.2;omega) hn ?_;simp;refine Qn (sl':=[(1,.vptr 1 0),(3,.mref 2),(4,.sl q 1 off len),(8,.vptr H.length 0),(34,.list (a.mv.map encMv)),(35,.i a.mv.length),(36,.i j)]) ?_ (by simp);have zl:=zm (IntKind.i64.wrap (v+1));generalize IntKind.i64.wrap (v+1)=v1 at *;refine Q4 λV hV=>?_
     have v0:V[0]?=some (.vars (Qk a)):=by rw[hV];exact Qd (by decide) k0 _
     have zq:V[1]?=some (.vars (Qk a)):=by rw[hV];exact Qd (by decide) k1 _
     have v2:V[2]?=some (mpD (L++[(m.src,v1)])):=by rw[hV];exact Qg k2 _
     have vq:V[q]?=some (.arr 3 1 (xs.map AV.i)):=by rw[hV];exact Qd (by omega) kq _
     have vx:V[H.length]?=some (.vars [.i m.src,.i m.dst,.list (m.on.map encL)]):=by rw[hV];exact Qd (by omega) kx _
     clear hV k0 k1 k2 kq kx;have ye:=Qe vq;have yf:=hT.ln;have yg:=hT.bd;have yh:(L++[(m.src,v1)]).length=L.length+1:=by simp
     have yi:=zl.len;have y7:xs.length<=1000:=by omega
     have zh:(xs++[m.src])[off]?=some z:=by rw[zF z1];exact hz
     have zr:(xs.drop off++[m.src])[0]?=some z:=by rw[zF (by simp;omega),List.getElem?_drop];simpa using hz
     have zi:=zf rfl;have y1:m.src∈(L++[(m.src,v1)]).map (·.1):=by simp
     have zj:∀y∈xs,y∈(L++[(m.src,v1)]).map (·.1):=λy hy=>by rw[yR];exact List.mem_append_left _ (hT.al y hy).2
     have za:TdI a (L++[(m.src,v1)]) (xs++[m.src]) off (len+1):=⟨by simp;omega,λy hy=>by
      rcases zT.1 hy with hy|hy
      ·exact⟨(hT.al y hy).1,zj y hy⟩
      rw[zO.1 hy];exact⟨zi,y1⟩,by simp;omega⟩
     have zk:TdI a (L++[(m.src,v1)]) (xs.drop off++[m.src]) 0 (len+1):=⟨by simp;omega,λy hy=>by
      rcases zT.1 hy with hy|hy
      ·exact⟨(hT.al y (vZ hy)).1,zj y (vZ hy)⟩
      rw[zO.1 hy];exact⟨zi,y1⟩,by simp;omega⟩
     by_cases ho:off=0
     ·subst ho;obtain rfl:len=xs.length:=by omega
      repeat(refine s_ ?_;simp[vx])
      refine apS T47 T3 ?_;simp[Qa vq];refine⟨by simp[Wg,Qa vq]<;>omega,?_⟩;repeat(refine s_ ?_;simp[hw])
      refine Qc (sl':=[(1,.vptr 1 0),(3,.mref 2),(4,.sl (V.length+1) 1 0 (xs.length+1)),(34,.list (a.mv.map encMv)),(35,.i a.mv.length),(36,.i (j+1:Nat))]) ?_ (by simp);exact ih2 (j+1,L++[(m.src,v1)],V.length+1,0,xs.length+1,xs++[m.src],_) ⟨by simp only;omega,by simp only;omega,by simp only;omega,zh,zl,za,Qa (Qd (by omega) (Qa v0 _) _) _,Qa (Qd (by omega) (Qa zq _) _) _,Qa (Qd (by omega) (Qa v2 _) _) _,by simp only;rw[zH (by simp)];simp,by simp only;omega⟩ (by simp only;omega)
     repeat(refine s_ ?_;simp[vx])
     refine C0 tOk rfl rfl T47 rfl T3 (by decide) (by decide) rfl rfl (Qa vq _) (by omega) (by simp;omega) (by simp) (ys:=[.i m.src]) (by simp) (by simp[AV.cells,AV.leaf]) (by simp;omega) (by simp;omega) rfl ?_ ?_
     ·simp;repeat(refine s_ ?_;simp[hw])
      refine Qc (sl':=[(1,.vptr 1 0),(3,.mref 2),(4,.sl q 1 off (len+1)),(34,.list (a.mv.map encMv)),(35,.i a.mv.length),(36,.i (j+1:Nat))]) ?_ (by simp);exact ih2 (j+1,L++[(m.src,v1)],q,off,len+1,xs++[m.src],_) ⟨by simp only;omega,by simp only;omega,by simp only;omega,zh,zl,za,Qd (by omega) (Qa v0 _) _,Qd (by omega) (Qa zq _) _,Qd (by omega) (Qa v2 _) _,by simp only;rw[zK (by have:=Qe vq;simp;omega)];simp,hq⟩ (by simp only;omega)
     simp;repeat(refine s_ ?_;simp[hw])
     refine Qc (sl':=[(1,.vptr 1 0),(3,.mref 2),(4,.sl (V.length+1) 1 0 (len+1)),(34,.list (a.mv.map encMv)),(35,.i a.mv.length),(36,.i (j+1:Nat))]) ?_ (by simp);exact ih2 (j+1,L++[(m.src,v1)],V.length+1,0,len+1,xs.drop off++[m.src],_) ⟨by simp only;omega,by simp only;omega,by simp only;omega,zr,zl,zk,Qa (Qd (by omega) (Qa v0 _) _) _,Qa (Qd (by omega) (Qa zq _) _) _,Qa (Qd (by omega) (Qa v2 _) _) _,by simp only;rw[zH (by simp)];simp,by simp only;omega⟩ (by simp only;omega)
   have hb:(m.dst==z)=false:=by simpa using hdz
   refine Qo tOk mixed [] (.val 0 (.val 1 (.val 2 (.val 3 (.val 4 (.val 5 (.val 6 (.val 7 (.val 8 (.val 9 (.val 10 (.val 11 (.val 12 (.one 13 (.val 14 (.val 15 (.done))))))))))))))))) rfl (by kernel_rfl) ?_;simp[kx,kq,zd,zg,hb,z7,z1];refine Wi rfl rfl ?_;simp;refine Qb rfl (λh=>by simp at h) (λ_=>?_);repeat(refine s_ ?_;simp[hw])
   refine Qc (sl':=[(1,.vptr 1 0),(3,.mref 2),(4,.sl q 1 off len),(34,.list (a.mv.map encMv)),(35,.i a.mv.length),(36,.i (j+1:Nat))]) ?_ (by simp);exact ih2 (j+1,L,q,off,len,xs,K) ⟨by simp only;omega,hμ,z7,hz,hD,hT,k0,k1,k2,kq,hq⟩ (by simp only;omega)
  have yj:j=a.mv.length:=by simp at ze;omega
  have y8:(1:Int)<=len:=by omega
  repeat(refine s_ ?_;simp[y8])
  refine Qc (sl':=[(1,.vptr 1 0),(3,.mref 2),(4,.sl q 1 (off+1) (len - 1))]) ?_ (by simp);have y9:TdI a L xs (off+1) (len - 1):=⟨by have:=hT.ln;omega,hT.al,hT.bd⟩
  have y6:=hD.len;exact ih (μ - 1,L,q,off+1,len - 1,xs,H) ⟨by simp only;omega,hD,y9,g0,g1,g2,gq,hq⟩ (by simp only;omega)
 repeat(refine s_ ?_;simp)
 exact⟨g0,L,g2,hD⟩
end
section
open Go Go.Proofs Go.Maps Go.RowKit
def f0e(a:Aut)(ha:OkA a)(z1:¬alive a 0):PC prog 20 [encA a] (λr=>r= .tup [.bool true,.list [],.i 0]):=by
 refine pcB func20 results20 ntmps20 ?_;simp only[Qf];have cK:=R6 a;rw[(Ud a).2 ha]at cK;have cD:=k1l a ha;simp only[encA]at cK cD |-;repeat(refine s_ ?_;simp)
 refine pcL (cK) ?_;simp;repeat(refine s_ ?_;simp)
 refine Qb rfl (λh=>by simp at h) (λ_=>?_);repeat(refine s_ ?_;simp)
 refine Qu rfl rfl cD rfl ?_;rintro _ H' ⟨id,L,rfl,h0,h1,hD⟩;simp;repeat(refine s_ ?_;simp)
 have z6:(0:Int)∉L.map (·.1):=λhm=>by obtain⟨e,he,h⟩:=zQ.1 hm;exact z1 (by rw[<-h];exact hD.al e he)
 refine Hb rfl rfl rfl rfl rfl (Qa h1 _) (hD.key ha) (by decide) (λv hv=>absurd (zQ.2 ⟨_,hv,rfl⟩) z6) (λ_=>?_);simp;repeat(refine s_ ?_;simp)
 refine Qb rfl (λ_=>?_) (λh=>by simp at h);repeat(refine s_ ?_;simp)
end
def v29{k:Aut}(hk:Dfa k){w:List Sy}(hw:∀x∈w,Wb k x):inS k (stF k 0 w):=(hk.run w 0 hk.zero hw).1
def c18(a:Aut)(s:Int)(v w:List Sy):stF a s (v++w)=stF a (stF a s v) w:=by unfold stF;rw[List.foldl_append]
def Gg(a:Aut)(v w:List Sy):Fa a 0 (v++w)=Fa a (stF a 0 v) w:=by unfold Fa;rw[c18]
def w11{a m:Aut}(ha:OkA a)(hm:Pr a=(0,m)){i j:Nat}(hi:i<m.fin.length)(hj:j<m.fin.length)(h:∀w,(∀x∈w,Wb m x)->Fa m i w=Fa m j w):i=j:=by obtain⟨c,c1,c2,rfl,c4,_⟩:=Sj ha hm;exact q08 c1 c4 hi hj h
def Ni{a m k:Aut}(ha:OkA a)(hm:Pr a=(0,m))(hk:Dfa k)(ht:k.types=a.types)(hl:∀w,(∀x∈w,Wb a x)->E5 k w=E5 a w):m.fin.length<=k.fin.length:=by
 obtain⟨_,m1,m2,m3,_⟩:=Hk ha hm;have hc:=x1r ha hm;have z6:∀z,Wb m z↔Wb a z:=λz=>W6 m2;have z1:∀z,Wb k z↔Wb a z:=λz=>W6 ht;have z7:∀n:Nat,∃w,n<m.fin.length->(∀x∈w,Wb m x)/\stF m 0 w=n:=λn=>by
  by_cases h:n<m.fin.length
  ·obtain⟨w,hw⟩:=hc n h;exact⟨w,λ_=>hw⟩
  exact⟨[],λk=>absurd k h⟩
 obtain⟨f,hf⟩:∃f:Nat->List Sy,∀n,n<m.fin.length->(∀x∈f n,Wb m x)/\stF m 0 (f n)=n:=⟨λn=>(z7 n).choose,λn=>(z7 n).choose_spec⟩
 have z8:((yU m.fin.length).map λn=>stF k 0 (f n)).Nodup:=by
  unfold List.Nodup;rw[List.pairwise_map];refine(List.nodup_range (n:=m.fin.length)).imp_of_mem λ{i j} hi hj hne e=>hne ?_;rw[xJ]at hi hj;obtain⟨i1,i2⟩:=hf i hi;obtain⟨j1,j2⟩:=hf j hj;refine w11 ha hm hi hj λw hw=>?_;have za:∀x∈f i++w,Wb m x:=λx hx=>(zT.1 hx).elim (i1 x) (hw x);have zb:∀x∈f j++w,Wb m x:=λx hx=>(zT.1 hx).elim (j1 x) (hw x);have e1:∀v,(∀x∈v,Wb m x)->Fa m 0 v=Fa k 0 v:=λv hv=>by rw[<-m1.acc hv,<-hk.acc λx hx=>(z1 x).2 ((z6 x).1 (hv x hx)),m3 v λx hx=>(z6 x).1 (hv x hx),hl v λx hx=>(z6 x).1 (hv x hx)]
  have a1:=e1 _ za;have a2:=e1 _ zb;rw[Gg,Gg,i2]at a1;rw[Gg,Gg,j2]at a2;rw[a1,a2,e]
 have hlen:=Ts _ (El k.fin.length) z8 λx hx=>by obtain⟨n,hn,rfl⟩:=zQ.1 hx;exact Ek.2 (v29 hk λx hx=>(z1 x).2 ((z6 x).1 ((hf n (xJ.1 hn)).1 x hx)))
 simpa[El]using hlen
def x1n{a d c k m b:Aut}(ha:OkA a)(hd:Wv a=(0,d))(hc:Mw a=(0,c))(hk:Sx d=(0,k))(hm:Pr a=(0,m))(hb:Mw c=(0,b)):
  (∀x,(x=d\/x=k\/x=m\/x=b)->OkA x/\x.types=a.types/\∀w,(∀z∈w,Wb a z)->E5 x w=E5 a w)/\m.fin.length<=k.fin.length/\m.fin.length<=b.fin.length/\OkA c/\c.types=a.types/\∀w,(∀z∈w,Wb a z)->E5 c w= !E5 a w:=by
 obtain⟨Q,_,_,_,_,_,d1,d2,d3,d4⟩:=Tk ha hd;obtain⟨c1,c2,c3,c4,c5⟩:=Cs ha hc;obtain⟨b1,b2,b3,b4,b5⟩:=Cs c1 hb;obtain⟨m0,m1,m2,m3,_⟩:=Hk ha hm;have z1:Il d=(0,k):=by rw[<-hk,Sx,if_neg (λh=>h ((Ud d).2 d1))]
 obtain⟨k1,k2,k3,k4,k5⟩:=Gf d1 z1;have kl:∀w,(∀z∈w,Wb a z)->E5 k w=E5 a w:=λw hw=>by rw[k5,d4 w hw]
 have bl:∀w,(∀z∈w,Wb a z)->E5 b w=E5 a w:=λw hw=>by rw[b5 w λz hz=>(W6 c4).2 (hw z hz),c5 w hw,Bool.not_not]
 refine⟨λx hx=>?_,Ni ha hm ⟨k1,k4 d2,k3⟩ (k2.trans d3) kl,Ni ha hm ⟨b1,b2,b3⟩ (b4.trans c4) bl,c1,c4,c5⟩;rcases hx with rfl|rfl|rfl|rfl
 ·exact⟨d1,d3,d4⟩
 ·exact⟨k1,k2.trans d3,kl⟩
 ·exact⟨m0,m2,m3⟩
 exact⟨b1,b4.trans c4,bl⟩
end Go.Abs
