/- Part Uj of the proof: steps on the way to the last part. No condition. -/
import Derived.Test.YtjmkolhkojgjpaaGreatDoorUi
import Derived.Test.YtjmkolhkojgjpaaGreatDoorUg
import Derived.Test.YtjmkolhkojgjpaaGreatDoorUh
import Derived.Test.YtjmkolhkojgjpaaGreatDoorUc
import Derived.Shelf.SlGeneric
import Derived.Ground.SlsfProg
import Derived.Shelf.SlSortCmp.WholeK
import Derived.Test.YtjmkolhkojgjpaaGreatDoorProg
import Derived.DeepKeys4
set_option linter.all false
open List renaming take_length->yB,take_succ_eq_append_getElem->zR,flatMap_append->wJ,filterMap_append->uk,take_append_drop->xO,getElem?_map->zU,length_filter_le->xG,getElem?_eq_getElem->zI,getElem_mem->zK,getElem?_append_right->zH,append_nil->xB,getElem_eq_iff->yH,append_assoc->xQ,length_pos_iff->uE,pairwise_iff_getElem->yJ,mem_map->zO,getElem?_eq_some_iff->zB,range_succ->wM,mem_of_getElem?->zJ,getElem?_append_left->zF,getElem?_set_ne->zE,range->yR,filter_append->vV,map_append->yU,map_map->vX,length_append->z_,nodup_append->vN,map_id'->se,mem_append->zV,take_of_length_le->zT,drop_eq_getElem_cons->wH,set_append_right->v_,getElem?_set_self->zL,foldl_append->wL,length_map->zY,all_eq_true->zW,map->uC,drop_length->xH,all_eq_false->vT
open Bool renaming eq_iff_iff->xT,or_eq_true->wV,and_eq_true->zX,not_eq_true->ut,false_eq_true->uI
open Array renaming getElem?_append_left->y_,getElem?_modify->wU
open Nat renaming zero_le->yW,succ_mul->uH,le_trans->yL,mul_le_mul->vY,succ_le_succ->tR,le_of_lt->tf
open Option renaming map_eq_some_iff->zS,map_some->wG
set_option maxHeartbeats 16000000
set_option linter.unusedSimpArgs false
set_option maxRecDepth 100000
open Go.Proofs.Tryz
namespace Go.Abs
open Go Go.Proofs Go.Maps Go.RowKit
section
abbrev Stp:=Sy×(Int×Int)
def Ev(e:Stp):AV:= .agg [.i e.1.ty,.i e.1.num,.i e.2.1,.i e.2.2]
def f1y(a b:Aut)(p q:Int):PC prog 76 [Yd a,Yd b,.i p,.i q] (λr=>r= .fn (.func 142) [] [.iptr (Wp a),.iptr [.i p],.iptr (Wp b),.iptr [.i q]]):=by refine pcB func76 results76 ntmps76 ?_;simp only[Qe];simp only[Yd,Wp];repeat(refine s_ ?_;simp)
def Ba(b:Aut)(q:Int)(m:Mv)(j:Nat):List Stp:=((We b q).take j).filterMap λn=>(E5 m.on n.on).map λx=>(x,(m.dst,n.dst))
def Pt(a b:Aut)(s:Int×Int)(i:Nat):List Stp:=((We a s.1).take i).flatMap λm=>Ba b s.2 m (We b s.2).length
def Bk(a b:Aut)(s:Int×Int):Pt a b s (We a s.1).length=W4 a b s:=by rw[k1g,Pt,yB];unfold Ba;rw[yB]
def g0b(a b:Aut)(s:Int×Int):Pt a b s 0=[]:=by simp[Pt]
def y1e(b:Aut)(q:Int)(m:Mv):Ba b q m 0=[]:=by simp[Ba]
def g0r(a b:Aut)(s:Int×Int){i:Nat}(h:i<(We a s.1).length):Pt a b s (i+1)=Pt a b s i++Ba b s.2 (We a s.1)[i] (We b s.2).length:=by unfold Pt;rw[zR h,wJ];simp
def x1j(b:Aut)(q:Int)(m:Mv){j:Nat}(h:j<(We b q).length):Ba b q m (j+1)=Ba b q m j++(match E5 m.on (We b q)[j].on with|some x=>[(x,(m.dst,(We b q)[j].dst))]|none=>[]):=by
 unfold Ba;rw[zR h,uk]
 congr 1
 cases hx:E5 m.on (We b q)[j].on<;>simp[hx]
def f1i(b:Aut)(q:Int)(m:Mv)(j:Nat):∃r,Ba b q m (We b q).length=Ba b q m j++r:=by refine⟨((We b q).drop j).filterMap λn=>(E5 m.on n.on).map λx=>(x,(m.dst,n.dst)),?_⟩;unfold Ba;rw[<-uk,xO,yB]
def w10(a b:Aut)(s:Int×Int)(i:Nat):∃r,W4 a b s=Pt a b s i++r:=by refine⟨((We a s.1).drop i).flatMap λm=>Ba b s.2 m (We b s.2).length,?_⟩;rw[<-Bk];unfold Pt;rw[<-wJ,xO,yB]
def Vz{a:Aut}{s:Int}(h:inS a s):(Y7 a)[s.toNat]?=some (Ys (We a s)):=by have:=An h;unfold Y7;rw[zU,List.getElem?_range this.1];simp[this.2]
def w0l{a:Aut}(ha:OkA a){s:Int}{m:Mv}(hm:m∈We a s):PWf a.types.toNat m.on/\∀t∈m.on,t.length<=256:=by have:=(Ry.1 hm).1;exact⟨ha.wfA.on m this,S0 ha this⟩
def Hl(a:Aut)(s:Int):(We a s).length<=a.mv.length:=xG _ _
attribute [local irreducible] We E5 Ba Pt Y7 W4
def y1t (a b:Aut) (ha:OkA a) (hb:OkA b) (ht:b.types=a.types) (p q:Int) (hp:inS a p) (hq:inS b q) (l:Nat) {z8:Nat} {sl':List (Nat×AV)} {ps:List Tmp} {asg body:Code} (y4:ps.length=1) (y5:(ps.all λp=>decide (p<z8))=true)
  (Inv:List Stp->List AObj->Prop) (Done:Code->List AObj->Prop) (H0:List AObj)
  (hI:∀k H,Inv k H->H[l]?=some (.lp true none z8 sl' ps asg body))
  (z7:∀k H L,Inv k H->Inv k (H++L))
  (zb:∀pre e post H,W4 a b (p,q)=pre++e::post->Inv pre H->H0.length<=H.length->AWP prog z8 H.length asg (Se (AWP prog z8 H.length body (y0j l (λjm K2=>(jm=none/\Inv (pre++[e]) (K2.set l (.lp true none z8 sl' ps asg body))/\∀i cs,H0.length<=i->H[i]?=some (.vars cs)->(K2.set l (.lp true none z8 sl' ps asg body))[i]?=some (.vars cs))\/∃c,jm=some c/\Done c (K2.set l (.lp false (some c) z8 sl' ps asg body))))) (λ_ _=>False)) ⟨Tg sl' ps [Ev e],H.set l .dead⟩)
  (h0:Inv [] H0):FC prog 142 [.yld l,.iptr (Wp a),.iptr [.i p],.iptr (Wp b),.iptr [.i q]] H0 (λ_ H'=>Inv (W4 a b (p,q)) H'\/∃c,Done c H'):=by
 refine fcB func142 results142 ntmps142 ?_;simp only[Qe];have zk:=Vz hp;have zl:=Vz hq;have yv:=An hp;have yw:=An hq;have y6:=Hl a p;have y7:=Hl b q;have yx:=ha.mvs;have yy:=hb.mvs;have y8:=hp.1;have y9:=hq.1;have ya:(Y7 a).length=a.fin.length:=by unfold Y7;simp
 have yb:(Y7 b).length=b.fin.length:=by unfold Y7;simp
 have yc:=hp.2;have yd:=hq.2;simp only[Wp,Ys]at zk zl |-;have zn:∀hh,(Y7 a)[p.toNat]'hh= .list ((We a p).map encMv):=λhh=>by rw[zI hh]at zk;exact Option.some.inj zk
 have zo:∀hh,(Y7 b)[q.toNat]'hh= .list ((We b q).map encMv):=λhh=>by rw[zI hh]at zl;exact Option.some.inj zl
 repeat(refine s_ ?_;simp[zk,zn,y8,yc,ya])
 have ye:(b.types).toNat=a.types.toNat:=by rw[ht]
 refine Qj (Qc (sl':=[(0,.yld l),(1,.iptr [.i a.types,.list (a.fin.map .bool),.list (a.mv.map encMv),.list (Y7 a)]),(2,.iptr [.i p]),(3,.iptr [.i b.types,.list (b.fin.map .bool),.list (b.mv.map encMv),.list (Y7 b)]),(4,.iptr [.i q]),(16,.list ((We a p).map encMv)),(17,.i (We a p).length),(18,.i (0:Nat))]) ?_ (by simp));have zp:Pt a b (p,q) (We a p).length=W4 a b (p,q):=Bk a b (p,q);have zg:=λi h=>g0r a b (p,q) (i:=i) h;have zc:=λm j h=>x1j b q m (j:=j) h;have zh:=λm j=>f1i b q m j;have zi:=λi=>w10 a b (p,q) i;have hz:Pt a b (p,q) 0=[]:=g0b a b (p,q);have yf:∀m,Ba b q m 0=[]:=λm=>y1e b q m;refine Qi (F:=λ(u:Nat×List AObj)=>⟨[(0,.yld l),(1,.iptr [.i a.types,.list (a.fin.map .bool),.list (a.mv.map encMv),.list (Y7 a)]),(2,.iptr [.i p]),(3,.iptr [.i b.types,.list (b.fin.map .bool),.list (b.mv.map encMv),.list (Y7 b)]),(4,.iptr [.i q]),(16,.list ((We a p).map encMv)),(17,.i (We a p).length),(18,.i u.1)],u.2⟩)
  (λu=>u.1<=(We a p).length/\Inv (Pt a b (p,q) u.1) u.2/\H0.length<=u.2.length) (λu=>(We a p).length - u.1) ?_ (0,H0) ⟨by simp,by rw[hz];exact h0,Nat.le_refl _⟩
 rintro⟨i,H⟩ ⟨hi,hv,zw⟩ ih;simp only at hi hv zw ih |-;repeat(refine s_ ?_;simp)
 refine Qa rfl (λyg=>?_) (λyh=>?_)
 ·have za:i<(We a p).length:=by simpa using yg
  have hw:=wz i (by omega);have zy:=zg i za;obtain⟨yi,yj⟩:=w0l ha (zK za);have yk:∃r,W4 a b (p,q)=(Pt a b (p,q) i++Ba b q (We a p)[i] (We b q).length)++r:=by obtain⟨r,hr⟩:=zi (i+1);exact⟨r,by rw[hr,zy]⟩
  have zd:((We a p).map encMv)[i]?=some (encMv (We a p)[i]):=by simp[za]
  have ze:∀hh,((We a p).map encMv)[i]'hh=encMv (We a p)[i]:=λhh=>by simp
  have zz:=λH'=>ih (i+1,H');simp only[zy]at zz;generalize (We a p)[i]=m at *
  have yl:=zc m;have ym:=zh m;have yn:=yf m;simp only[encMv]at zd ze;have zq:=z7 _ H [.vars [.i m.src,.i m.dst,.list (m.on.map encL)]] hv;repeat(refine s_ ?_;simp[zl,zo,y9,yd,yb,zd,ze,za])
  refine Wh λZ hZ=>?_;have zx:Z[H.length]?=some (.vars [.i m.src,.i m.dst,.list (m.on.map encL)]):=by rw[hZ,zH (by simp)];simp
  rw[<-hZ]at zq;clear hZ hv zd ze;generalize H.length=x at *;clear H;refine Qj (Qc (sl':=[(0,.yld l),(1,.iptr [.i a.types,.list (a.fin.map .bool),.list (a.mv.map encMv),.list (Y7 a)]),(2,.iptr [.i p]),(3,.iptr [.i b.types,.list (b.fin.map .bool),.list (b.mv.map encMv),.list (Y7 b)]),(4,.iptr [.i q]),(7,.vptr x 0),(16,.list ((We a p).map encMv)),(17,.i (We a p).length),(18,.i i),(26,.list ((We b q).map encMv)),(27,.i (We b q).length),(28,.i (0:Nat))]) ?_ (by simp))
  refine Qi (F:=λ(u:Nat×List AObj)=>⟨[(0,.yld l),(1,.iptr [.i a.types,.list (a.fin.map .bool),.list (a.mv.map encMv),.list (Y7 a)]),(2,.iptr [.i p]),(3,.iptr [.i b.types,.list (b.fin.map .bool),.list (b.mv.map encMv),.list (Y7 b)]),(4,.iptr [.i q]),(7,.vptr x 0),(16,.list ((We a p).map encMv)),(17,.i (We a p).length),(18,.i i),(26,.list ((We b q).map encMv)),(27,.i (We b q).length),(28,.i u.1)],u.2⟩)
   (λu=>u.1<=(We b q).length/\Inv (Pt a b (p,q) i++Ba b q m u.1) u.2/\u.2[x]?=some (.vars [.i m.src,.i m.dst,.list (m.on.map encL)])) (λu=>(We b q).length - u.1) ?_ (0,Z) ⟨by simp,by rw[yn,xB];exact zq,zx⟩
  clear zx zq;clear Z;rintro⟨j,G⟩ ⟨hj,gv,gx⟩ ih2;simp only at hj gv gx ih2 |-;repeat(refine s_ ?_;simp)
  refine Qa rfl (λzr=>?_) (λzt=>?_)
  ·have z1:j<(We b q).length:=by simpa using zr
   have y0:=wz j (by omega);have y1:=yl j z1;obtain⟨yo,yp⟩:=w0l hb (zK z1);obtain⟨r1,zm⟩:=ym (j+1);obtain⟨r2,yq⟩:=yk;have zd:((We b q).map encMv)[j]?=some (encMv (We b q)[j]):=by simp[z1]
   have ze:∀hh,((We b q).map encMv)[j]'hh=encMv (We b q)[j]:=λhh=>by simp
   have z6:=λH'=>ih2 (j+1,H');rw[y1]at zm;simp only[y1]at z6;generalize (We b q)[j]=n at *;simp only[encMv]at zd ze
   have zf:∀M,(G++M)[x]?=some (.vars [.i m.src,.i m.dst,.list (m.on.map encL)]):=λM=>Qb gx M;have zu:∀M hh,(G++M)[x]'hh= .vars [.i m.src,.i m.dst,.list (m.on.map encL)]:=λM hh=>(yH hh).2 (zf M);repeat(refine s_ ?_;simp[zd,ze,z1,zf,zu])
   refine pcL (Dy a.types.toNat m.on n.on yi (by rw[<-ye];exact yo) (λs hs=>by have:=yj s hs;omega) (λs hs=>by have:=yp s hs;omega) (by have:=ha.types;omega)) ?_;simp;cases hx:E5 m.on n.on with
   |none=>
    rw[hx]at zm z6;simp only[xB]at z6;simp[Hw,encSy];repeat(refine s_ ?_;simp[zf,zu])
    refine Qx rfl rfl ?_;simp;repeat(refine s_ ?_;simp)
    refine Qa rfl (λh=>by cases h) (λ_=>?_);repeat(refine s_ ?_;simp[y0])
    refine Qc (sl':=[(0,.yld l),(1,.iptr [.i a.types,.list (a.fin.map .bool),.list (a.mv.map encMv),.list (Y7 a)]),(2,.iptr [.i p]),(3,.iptr [.i b.types,.list (b.fin.map .bool),.list (b.mv.map encMv),.list (Y7 b)]),(4,.iptr [.i q]),(7,.vptr x 0),(16,.list ((We a p).map encMv)),(17,.i (We a p).length),(18,.i i),(26,.list ((We b q).map encMv)),(27,.i (We b q).length),(28,.i (j+1:Nat))]) ?_ (by simp);exact z6 _ ⟨by omega,z7 _ _ _ gv,zf _⟩ (by omega)
   |some y=>
    rw[hx]at zm z6;simp[Hw,encSy];repeat(refine s_ ?_;simp[zf,zu])
    have y2:=z7 _ G [.vars [.i n.src,.i n.dst,.list (n.on.map encL)],.vars [.i y.ty,.i y.num]] gv;have y3:=zf [.vars [.i n.src,.i n.dst,.list (n.on.map encL)],.vars [.i y.ty,.i y.num]];have yr:H0.length<=(G++[AObj.vars [.i n.src,.i n.dst,.list (n.on.map encL)],AObj.vars [.i y.ty,.i y.num]]).length:=by have:=Qf y3;omega
    have i1:=hI _ _ y2;have yt:=zb (Pt a b (p,q) i++Ba b q m j) (y,(m.dst,n.dst)) (r1++r2) _ (by rw[yq,zm];simp) y2 yr;generalize G++[AObj.vars [.i n.src,.i n.dst,.list (n.on.map encL)],AObj.vars [.i y.ty,.i y.num]]=Y at *;refine Ym rfl rfl (q:=l) rfl rfl i1 y4 y5 rfl (λjm K2=>(jm=none/\Inv (Pt a b (p,q) i++Ba b q m j++[(y,(m.dst,n.dst))]) (K2.set l (.lp true none z8 sl' ps asg body))/\∀i cs,H0.length<=i->Y[i]?=some (.vars cs)->(K2.set l (.lp true none z8 sl' ps asg body))[i]?=some (.vars cs))\/∃c,jm=some c/\Done c (K2.set l (.lp false (some c) z8 sl' ps asg body))) ?_ ?_
    ·exact yt
    rintro jm K2 (⟨rfl,hK,yu⟩|⟨c,rfl,hD⟩)
    ·simp;repeat(refine s_ ?_;simp)
     refine Qa rfl (λh=>by cases h) (λ_=>?_);repeat(refine s_ ?_;simp[y0])
     refine Qc (sl':=[(0,.yld l),(1,.iptr [.i a.types,.list (a.fin.map .bool),.list (a.mv.map encMv),.list (Y7 a)]),(2,.iptr [.i p]),(3,.iptr [.i b.types,.list (b.fin.map .bool),.list (b.mv.map encMv),.list (Y7 b)]),(4,.iptr [.i q]),(7,.vptr x 0),(16,.list ((We a p).map encMv)),(17,.i (We a p).length),(18,.i i),(26,.list ((We b q).map encMv)),(27,.i (We b q).length),(28,.i (j+1:Nat))]) ?_ (by simp);exact z6 _ ⟨by omega,by rw[<-xQ];exact hK,yu x _ zw y3⟩ (by omega)
    simp;repeat(refine s_ ?_;simp)
    refine Qa rfl (λ_=>?_) (λh=>by cases h);repeat(refine s_ ?_;simp)
    exact .inr ⟨c,hD⟩
  have zj:j=(We b q).length:=by simp at zt;omega
  subst zj;repeat(refine s_ ?_;simp[hw])
  refine Qc (sl':=[(0,.yld l),(1,.iptr [.i a.types,.list (a.fin.map .bool),.list (a.mv.map encMv),.list (Y7 a)]),(2,.iptr [.i p]),(3,.iptr [.i b.types,.list (b.fin.map .bool),.list (b.mv.map encMv),.list (Y7 b)]),(4,.iptr [.i q]),(16,.list ((We a p).map encMv)),(17,.i (We a p).length),(18,.i (i+1:Nat))]) ?_ (by simp);exact zz G ⟨by omega,gv,by have:=Qf gx;omega⟩ (by omega)
 have zv:i=(We a p).length:=by simp at yh;omega
 subst zv;rw[zp]at hv;repeat(refine s_ ?_;simp)
 exact .inl hv
end
attribute [simp] d2k d2i
def Sa(a b:Int):Int:=if a<b then -1 else if b<a then 1 else 0
def orE(x y:Int):Int:=if x≠0 then x else y
def w1y(a:Int):PC prog 200 [.i a] (λr=>r= .bool false):=by refine pcB func200 results200 ntmps200 ?_;simp only[Qe];repeat(refine s_ ?_;simp)
def Cw(a b:Int):PC prog 133 [.i a,.i b] (λr=>r= .i (Sa a b)):=by
 refine pcB func133 results133 ntmps133 ?_;simp only[Qe];repeat(refine s_ ?_;simp)
 refine pcL (w1y a) ?_;simp;repeat(refine s_ ?_;simp)
 refine pcL (w1y b) ?_;simp;repeat(refine s_ ?_;simp)
 refine Qq rfl ?_;repeat(refine s_ ?_;simp)
 refine Qq rfl ?_;repeat(refine s_ ?_;simp)
 refine Qa rfl (λh=>?_) (λh=>?_)
 ·repeat(refine s_ ?_;simp)
  rw[Sa,if_pos (by simpa using h)]
 repeat(refine s_ ?_;simp)
 refine Qa rfl (λh1=>?_) (λh1=>?_)
 ·repeat(refine s_ ?_;simp)
  rw[Sa,if_neg (by simpa using h),if_pos (by simpa using h1)]
 repeat(refine s_ ?_;simp)
 rw[Sa,if_neg (by simpa using h),if_neg (by simpa using h1)]
def c1z(x y:Int):PC prog 132 [LI [x,y]] (λr=>r= .i (orE x y)):=by
 refine pcB func132 results132 ntmps132 ?_;simp only[Qe];have w1:IntKind.i64.wrap 1=1:=by decide
 have w2:IntKind.i64.wrap 2=2:=by decide
 repeat(refine s_ ?_;simp)
 refine Qs 2 (λj=>j=0\/x=0/\(j=1\/y=0)) (λj=>[(3,.i 0),(6,LI [x,y]),(7,.i (2:Nat)),(8,.i j)]) (λ_=>[]) rfl (by simp) (by simp) (by simp) (by simp) (.inl rfl) ?_;intro j hj hI ih;repeat(refine s_ ?_;simp)
 refine Qa rfl (λz8=>?_) (λza=>?_)
 ·have z1:j<2:=by simp at z8;omega
  have hw:=wz j (by omega);obtain rfl|rfl:j=0\/j=1:=by omega
  ·repeat(refine s_ ?_;simp)
   refine Qa rfl (λh=>?_) (λh=>?_)
   ·repeat(refine s_ ?_;simp)
    rw[orE,if_pos (by simpa using h)]
   have h0:x=0:=by simpa using h
   repeat(refine s_ ?_;simp[w1])
   refine Qp _ (ih z1 (.inr ⟨h0,.inl rfl⟩)) rfl (by simp) ?_ (by simp) (by simp);simp
  have hx:x=0:=by rcases hI with h|h;exact absurd h (by decide);exact h.1
  repeat(refine s_ ?_;simp)
  refine Qa rfl (λh=>?_) (λh=>?_)
  ·repeat(refine s_ ?_;simp)
   rw[orE,if_neg (by simpa using hx)]
  have h0:y=0:=by simpa using h
  repeat(refine s_ ?_;simp[w2])
  refine Qp _ (ih z1 (.inr ⟨hx,.inr h0⟩)) rfl (by simp) ?_ (by simp) (by simp);simp
 have z6:j=2:=by simp at za;omega
 subst z6;have z7:x=0/\y=0:=by
  rcases hI with h|⟨h1,h2⟩
  ·exact absurd h (by decide)
  exact⟨h1,h2.elim (λh=>absurd h (by decide)) id⟩
 repeat(refine s_ ?_;simp)
 rw[orE,z7.1,z7.2];rfl
def u29(x y:Sy):Int:=orE (Sa x.ty y.ty) (Sa x.num y.num)
def z0l(x y:Stp):Int:=u29 x.1 y.1
def z0n(x y:Int×Int):Int:=orE (Sa x.1 y.1) (Sa x.2 y.2)
def v2e(x y:Int×Int):Bool:=decide (x.1<y.1) || (decide (x.1=y.1) && decide (x.2<y.2))
def q2c(a b c d:Int):decide (orE (Sa a b) (Sa c d)<0)=(decide (a<b) || (decide (a=b) && decide (c<d))):=by
 rw[xT];simp only[decide_eq_true_eq,wV,zX];unfold orE Sa;by_cases h1:a<b
 ·simp[h1]
 by_cases h2:b<a
 ·rw[if_neg h1,if_pos h2];simp;omega
 rw[if_neg h1,if_neg h2];have h3:a=b:=by omega
 simp[h3];by_cases h4:c<d
 ·simp[h4]
 by_cases h5:d<c
 ·simp[h4,h5]
 simp[h4,h5]
def u0p(x y:Sy):PC prog 197 [encSy x,encSy y] (λr=>r= .i (u29 x y)):=by
 refine pcB func197 results197 ntmps197 ?_;simp only[Qe];simp only[encSy];repeat(refine s_ ?_;simp)
 refine Ql tOk mixed [] (.val 0 (.val 1 (.val 2 (.val 3 (.val 5 (.val 6 (.val 7 (.val 8 (.one 4 (.one 9 (.one 10 (.one 11 (.val 12 (.done)))))))))))))) rfl (by kernel_rfl) ?_;simp;refine pcL (Cw x.ty y.ty) ?_;simp;refine pcL (Cw x.num y.num) ?_;simp;refine Oz rfl rfl (by first|(simp;done)|(simp;rfl)) (c1z (Sa x.ty y.ty) (Sa x.num y.num)) rfl ?_;rintro _ rfl;refine⟨by first|simp|rfl|trivial,?_⟩;simp;repeat(refine s_ ?_;simp)
 rfl
def j1z(x y:Stp):PC prog 196 [Ev x,Ev y] (λr=>r= .i (z0l x y)):=by
 refine pcB func196 results196 ntmps196 ?_;simp only[Qe];simp only[Ev];repeat(refine s_ ?_;simp)
 refine pcL (u0p x.1 y.1) ?_;simp;repeat(refine s_ ?_;simp)
 rfl
def v1s(x y:Int×Int):PC prog 131 [pqr x,pqr y] (λr=>r= .i (z0n x y)):=by
 refine pcB func131 results131 ntmps131 ?_;simp only[Qe];simp only[pqr];repeat(refine s_ ?_;simp)
 refine Ql tOk mixed [] (.val 0 (.val 1 (.val 2 (.val 3 (.val 5 (.val 6 (.val 7 (.val 8 (.one 4 (.one 9 (.one 10 (.one 11 (.val 12 (.done)))))))))))))) rfl (by kernel_rfl) ?_;simp;refine pcL (Cw x.1 y.1) ?_;simp;refine pcL (Cw x.2 y.2) ?_;simp;refine Oz rfl rfl (by first|(simp;done)|(simp;rfl)) (c1z (Sa x.1 y.1) (Sa x.2 y.2)) rfl ?_;rintro _ rfl;refine⟨by first|simp|rfl|trivial,?_⟩;simp;repeat(refine s_ ?_;simp)
 rfl
open Go.Shelf Go.Lib Go.Sort in
def x0r(x y:Stp):ltOf z0l x y=Lq x.1 y.1:=q2c ..
open Go.Shelf Go.Lib Go.Sort in
def y0f(x y:Int×Int):ltOf z0n x y=v2e x y:=q2c ..
def c1r{α:Type}(f g:α->Int):Go.Sort.SWO (λx y=>decide (f x<f y) || (decide (f x=f y) && decide (g x<g y))) where
 irrefl x:=by simp
 trans x y z h1 h2:=by simp only[wV,zX,decide_eq_true_eq]at *;omega
 ntrans x y z h1 h2:=by rw[<-ut]at *;simp only[wV,zX,decide_eq_true_eq]at *;omega
open Go.Shelf Go.Lib Go.Sort in
def f0k:SWO (ltOf z0l):=by
 have h:ltOf z0l=λx y:Stp=>decide (x.1.ty<y.1.ty) || (decide (x.1.ty=y.1.ty) && decide (x.1.num<y.1.num)):=by funext x y;exact x0r x y
 rw[h];exact c1r (λx:Stp=>x.1.ty) (λx:Stp=>x.1.num)
open Go.Shelf Go.Lib Go.Sort in
def c0u:SWO (ltOf z0n):=by
 have h:ltOf z0n=λx y:Int×Int=>decide (x.1<y.1) || (decide (x.1=y.1) && decide (x.2<y.2)):=by funext x y;exact y0f x y
 rw[h];exact c1r (λx:Int×Int=>x.1) (λx:Int×Int=>x.2)
end Go.Abs
namespace Go.Proofs
open Go.Shelf
def Tryz.sortLd_ren:Go.Shelf.Ren:=⟨λ|6=>195|15=>199|14=>235|28=>244|29=>245|20=>283|21=>284|22=>285|23=>286|24=>287|25=>288|26=>289|27=>290|46=>313|47=>292|48=>293|49=>314|50=>315|57=>324|n=>n,λ|22=>245|24=>184|25=>252|3=>3|39=>189|0=>0|53=>255|55=>258|4=>4|46=>291|45=>290|50=>112|5=>5|9=>9|66=>327|70=>331|76=>349|77=>350|n=>n,λ|n=>n⟩
def Tryz.sortLd:Go.Proofs.SlLaysF0.n6 prog Tryz.sortLd_ren:={
 mixed:=by kernel_rfl
 f6:=⟨Tryz.f195.name,by decide,func195.trans (congrArg some (by kernel_rfl))⟩
 f14:=⟨Tryz.f235.name,by decide,func235.trans (congrArg some (by kernel_rfl))⟩
 f15:=func199.trans (congrArg some (by kernel_rfl))
 f20:=⟨Tryz.f283.name,by decide,func283.trans (congrArg some (by kernel_rfl))⟩
 f21:=⟨Tryz.f284.name,by decide,func284.trans (congrArg some (by kernel_rfl))⟩
 f22:=⟨Tryz.f285.name,by decide,func285.trans (congrArg some (by kernel_rfl))⟩
 f23:=⟨Tryz.f286.name,by decide,func286.trans (congrArg some (by kernel_rfl))⟩
 f24:=⟨Tryz.f287.name,by decide,func287.trans (congrArg some (by kernel_rfl))⟩
 f25:=⟨Tryz.f288.name,by decide,func288.trans (congrArg some (by kernel_rfl))⟩
 f26:=⟨Tryz.f289.name,by decide,func289.trans (congrArg some (by kernel_rfl))⟩
 f27:=⟨Tryz.f290.name,by decide,func290.trans (congrArg some (by kernel_rfl))⟩
 f28:=func244.trans (congrArg some (by kernel_rfl))
 f29:=func245.trans (congrArg some (by kernel_rfl))
 f46:=⟨Tryz.f313.name,by decide,func313.trans (congrArg some (by kernel_rfl))⟩
 f47:=func292.trans (congrArg some (by kernel_rfl))
 f48:=func293.trans (congrArg some (by kernel_rfl))
 f49:=⟨Tryz.f314.name,by decide,func314.trans (congrArg some (by kernel_rfl))⟩
 f50:=⟨Tryz.f315.name,by decide,func315.trans (congrArg some (by kernel_rfl))⟩
 f57:=⟨Tryz.f324.name,by decide,func324.trans (congrArg some (by kernel_rfl))⟩
 t0:=underlying0
 a0:=isAgg0
 z0:=sizeOf0
 v0:=zeroValue0
 t3:=underlying3
 a3:=isAgg3
 z3:=sizeOf3
 v3:=zeroValue3
 t4:=underlying4
 a4:=isAgg4
 z4:=sizeOf4
 v4:=zeroValue4
 t5:=underlying5
 a5:=isAgg5
 z5:=sizeOf5
 v5:=zeroValue5
 t9:=underlying9
 a9:=isAgg9
 z9:=sizeOf9
 v9:=zeroValue9
 t22:=underlying245
 a22:=isAgg245
 z22:=sizeOf245
 v22:=zeroValue245
 t25:=underlying252
 a25:=isAgg252
 z25:=sizeOf252
 v25:=zeroValue252
 t39:=underlying189
 a39:=isAgg189
 z39:=sizeOf189
 v39:=zeroValue189
 t45:=underlying290
 a45:=isAgg290
 z45:=sizeOf290
 v45:=zeroValue290
 t46:=underlying291
 a46:=isAgg291
 z46:=sizeOf291
 v46:=zeroValue291
 t50:=underlying112
 a50:=isAgg112
 z50:=sizeOf112
 v50:=zeroValue112
 t53:=underlying255
 a53:=isAgg255
 z53:=sizeOf255
 v53:=zeroValue255
 t55:=underlying258
 a55:=isAgg258
 z55:=sizeOf258
 v55:=zeroValue258
 t66:=underlying327
 a66:=isAgg327
 z66:=sizeOf327
 v66:=zeroValue327
 t70:=underlying331
 a70:=isAgg331
 z70:=sizeOf331
 v70:=zeroValue331
 t76:=underlying349
 a76:=isAgg349
 z76:=sizeOf349
 v76:=zeroValue349
 t77:=underlying350
 a77:=isAgg350
 z77:=sizeOf350
 v77:=zeroValue350 }
end Go.Proofs
namespace Go.Abs
open Go Go.Proofs Go.RowKit
section
open Go.Shelf Go.Lib Go.Sort
def Ac{w:World}{I:Nat->Prop}{v:Value}{k:IntKind}{n:Int}(h:PVR w I v (.int k n)):v= .int k n:=by cases h;rfl
def D1(x:Stp):List Value:=[.int .i64 x.1.ty,.int .i64 x.1.num,.int .i64 x.2.1,.int .i64 x.2.2]
def f2v(x y:Stp):ltOf z0l x y=Lq x.1 y.1:=x0r x y
def k2i{w:World}{I:Nat->Prop}{l:List (Stp)}{F:Array Value}(hR:RowW w I 4 (l.map Ev) F):flatK D1 4 l.toArray=F:=by
 have z1:F.size=l.length * 4:=by have:=hR.size;simpa using this
 refine ext_get! (by simp[z1]) λt ht=>?_;have z6:t<l.length * 4:=by simpa using ht
 rw[get_flatK _ _ _ _ (by simpa using z6)];have hi:t / 4<l.length:=by omega
 rw[getElem!_pos l.toArray _ (by simpa using hi)];have hx:(l.map Ev)[t / 4]?=some (Ev l[t / 4]):=by simp[hi]
 have c0:=Ac (hR.cell _ _ hx 0 _ rfl);have c1:=Ac (hR.cell _ _ hx 1 _ rfl);have c2:=Ac (hR.cell _ _ hx 2 _ rfl);have c3:=Ac (hR.cell _ _ hx 3 _ rfl);have e0:l.toArray[t / 4]'(by simpa using hi)=l[t / 4]:=by simp
 rw[e0];have hm:t % 4=0\/t % 4=1\/t % 4=2\/t % 4=3:=by omega
 rcases hm with h|h|h|h<;>rw[h]
 ·have e1:t / 4 * 4+0=t:=by omega
  rw[e1]at c0;rw[c0];rfl
 ·have e1:t / 4 * 4+1=t:=by omega
  rw[e1]at c1;rw[c1];rfl
 ·have e1:t / 4 * 4+2=t:=by omega
  rw[e1]at c2;rw[c2];rfl
 have e1:t / 4 * 4+3=t:=by omega
 rw[e1]at c3;rw[c3];rfl
def y1m(H:List AObj)(p:Nat)(l:List (Stp))(hp:H[p]?=some (.arr 184 4 (l.map Ev)))(hl:l.length<=100000000):
  FC prog 195 [.sl p 4 0 l.length,.fn (.func 196) [] []] H
   (λr H'=>r= .tup []/\∃l':List (Stp),l'.Perm l/\l'.Pairwise (λx y=>Lq y.1 x.1=false)/\H'=H.set p (.arr 184 4 (l'.map Ev))):=by
 refine(q0z (xs:=l.map Ev) (Th func195 rfl rfl) (by simp) hp [.func (.func 196) #[] #[]] (λw I m vs a b=>K0 _ w I m _ vs a b) (λz8=>∃l':List (Stp),l'.Perm l/\l'.Pairwise (λx y=>Lq y.1 x.1=false)/\z8=l'.map Ev) ?_ ?_).mono ?_
 ·intro w I b cap F hE hI zc hR hH hb hc;by_cases z6:l=[]
  ·subst z6;refine Calls.mono (AnyF.slices_SortFunc_none Tryz.sortLd (some ⟨b,0,none⟩) cap _ w) ?_;rintro e w' ⟨rfl,rfl⟩;refine⟨rfl,[],F,0,#[],⟨[],.refl _,.nil,rfl⟩,rfl,hR,?_⟩;rw[grow_empty];exact(putRow_self id w' b 0 F hH).symm
  have zd:0<l.length:=uE.2 z6;have eg:∀args w,(callFunc 196 args).run prog w= .ok (.enter 196 args) w:=enters_of func196 (by kernel_rfl) rfl;have ze:=k2i hR;have zf:HoldsK D1 4 w b 0 l.toArray:=by unfold HoldsK;rw[ze];exact hH
  have z7:CmpLays prog 196 #[] D1 4 z0l b 0 l.toArray.size w:=λq os dk hs x y=>by
   have hW:∀c,I c->(sortWorldK D1 4 w b 0 q dk os).heap[c]? =w.heap[c]? :=λc za=>by have zg:=hI c za;have zh:b≠c:=λe=>zc (e▸za);simp only[sortWorldK,grow,putRowK,putRow,mapBlock,Sort.ahead];rw[y_ (by simpa using zg),wU,if_neg zh]
   have zb:∀z:Stp,PVR w I (.agg (D1 z).toArray) (Ev z):=λz=>by
    refine .agg _ _ (by simp[D1]) λi v x' hv z1=>?_
    match i,hv,z1 with
    |0,hv,z1=>simp[D1]at hv z1;subst hv z1;exact .int _ _
    |1,hv,z1=>simp[D1]at hv z1;subst hv z1;exact .int _ _
    |2,hv,z1=>simp[D1]at hv z1;subst hv z1;exact .int _ _
    |3,hv,z1=>simp[D1]at hv z1;subst hv z1;exact .int _ _
    |k+4,hv,z1=>simp[D1]at hv
   refine(j1z x y).laid hE hI hW (by simp) λi v x' hv z1=>?_
   match i,hv,z1 with
   |0,hv,z1=>simp at hv z1;subst hv z1;exact zb x
   |1,hv,z1=>simp at hv z1;subst hv z1;exact zb y
  have:=AnyQ.slices_SortFunc Tryz.sortLd 4 isAgg184 sizeOf184 D1 (λ_=>rfl) (λx v hv=>by simp[D1]at hv;rcases hv with rfl|rfl|rfl|rfl<;>rfl) z0l f0k 196 #[] b 0 cap l.toArray w eg z7 zf hb (by simp;omega);rw[show(l.toArray).size=l.length by simp]at this;refine Calls.mono this ?_;rintro e w' ⟨rfl,d',n,os,h1,h2,rfl⟩;obtain⟨s1,_,s3⟩:=h1;have hs:d'.toList.length=l.length:=by simpa using s1
  refine⟨rfl,d'.toList.map Ev,flatK D1 4 d',n,os,⟨d'.toList,?_,?_,rfl⟩,by simp[hs],⟨by simp,λx hx=>?_,λi x hx j y hy=>?_⟩,rfl⟩
  ·rw[show d'.extract 0 l.length=d' by simp[<-hs],show l.toArray.extract 0 l.length=l.toArray by simp]at s3;simpa using s3
  ·refine yJ.2 λi j hi hj zi=>?_;have:=h2 i j (yW _) zi (by omega);rw[f2v,getElem!_pos d' i (by simpa using hi),getElem!_pos d' j (by simpa using hj)]at this;simpa using this
  ·obtain⟨z,_,rfl⟩:=zO.1 hx;rfl
  rw[zU]at hx;obtain⟨z,hz,rfl⟩:=zS.1 hx;obtain⟨hi,rfl⟩:=zB.1 hz;have hj:j<4:=(zB.1 hy).1;have zj:i<d'.size:=by simpa using hi
  rw[get_flatK _ _ _ _ (by omega)];rw[show(i * 4+j) / 4=i by omega,show(i * 4+j) % 4=j by omega];rw[getElem!_pos d' i zj]
  match j,hj,hy with
  |0,_,hy=>simp[Ev,AV.cells]at hy;subst hy;exact .int _ _
  |1,_,hy=>simp[Ev,AV.cells]at hy;subst hy;exact .int _ _
  |2,_,hy=>simp[Ev,AV.cells]at hy;subst hy;exact .int _ _
  |3,_,hy=>simp[Ev,AV.cells]at hy;subst hy;exact .int _ _
 ·rintro h;have z6:l=[]:=by
   cases l with
   |nil=>rfl
   |cons x r=>simp at h
  subst z6;exact⟨⟨[],.refl _,.nil,rfl⟩,λw=>AnyF.slices_SortFunc_none Tryz.sortLd none 0 _ w⟩
 rintro r H' ⟨rfl,z8,⟨l',h1,h2,rfl⟩,rfl⟩;exact⟨rfl,l',h1,h2,rfl⟩
end
section
open Go.Maps
def v0w:(prog).underlying 66=some (.array 2 3):=by kernel_rfl
def x27:(prog).underlying 3=some (.int .i64):=by kernel_rfl
def x0x:(prog).cellsOf 66=2:=by kernel_rfl
def z1r:(prog).cellsOf 3=1:=by kernel_rfl
def w28:(prog).keyType 66=true:=by kernel_rfl
def z1s:laidOutB prog=true:=by kernel_rfl
def x25:(prog).keyTypeAt 3 66=true:=by kernel_rfl
def c1g:66<(prog).types.size:=of_decide_eq_true (by kernel_rfl)
def v0f:Keyed prog 66:=Keyed.of_law (deep_law_laid z1s (m:=3) (by decide) c1g x25 (by rw[v0w]))
def kyP(s:Int×Int):AV:= .agg [.i s.1,.i s.2]
def okK(s:Int×Int):Prop:=(0<=s.1/\s.1<=1000000)/\(0<=s.2/\s.2<=1000000)
def z1i{s t:Int×Int}(h:kyP s=kyP t):s=t:=by unfold kyP at h;simp at h;exact Prod.ext h.1 h.2
def keyLits_int(d:Nat){z:Int}(h:0<=z/\z<=1000000):(prog).keyLits (d+1) 3 [.int .i64 z]=some [.int .i64 z]:=by unfold Program.keyLits;rw[x27];simp[c1e h]
def g0t(d:Nat){s:Int×Int}(h:okK s):(prog).keyLits (d+2) 66 [.int .i64 s.1,.int .i64 s.2]=some [.int .i64 s.1,.int .i64 s.2]:=by unfold Program.keyLits;rw[v0w];simp only[x0x,z1r,List.length_cons,List.length_nil,if_true];have h1:=keyLits_int d h.1;have h2:=keyLits_int d h.2;simp[wM,h1,h2]
def types_size:∃d,(prog).types.size+1=d+2:=⟨(prog).types.size - 1,by have:=c1g;omega⟩
def Vf{s:Int×Int}(h:okK s):isKey prog 66 (kyP s):=by
 refine⟨.agg #[.int .i64 s.1,.int .i64 s.2],.string (keyBytes [.int .i64 s.1,.int .i64 s.2]),rfl,?_⟩;obtain⟨d,hd⟩:=types_size;unfold keyOf;rw[v0w];simp only;have hf:Value.formed prog 66 (.agg #[.int .i64 s.1,.int .i64 s.2])=true:=by unfold Value.formed;rw[v0w,x0x];rfl
 rw[w28,hf,hd];have:(Value.agg #[.int .i64 s.1,.int .i64 s.2]).cells.toList=[.int .i64 s.1,.int .i64 s.2]:=rfl;rw[this,g0t d h];rfl
abbrev Gy:=List ((Int×Int)×Nat)
def kvN(near:Gy):List (AV×AV):=near.map λe=>(kyP e.1,.i e.2)
def mpN(near:Gy):AObj:= .mp (kvN near)
structure NK (near:Gy):Prop where
 nd:(near.map (·.1)).Nodup
 ok:∀e∈near,okK e.1
def q2t{near:Gy}(h:NK near){j:Nat}{e:(Int×Int)×Nat}(he:near[j]?=some e):lkN near e.1=some e.2:=by
 unfold lkN;cases hf:near.find? (λe'=>decide (e'.1=e.1))with
 |none=>rw[List.find?_eq_none]at hf;have:=hf e (zJ he);simp at this
 |some e'=>
  have h1:e'.1=e.1:=by simpa using List.find?_some hf
  have h2:=List.mem_of_find?_eq_some hf;obtain⟨i,hi,rfl⟩:=List.getElem_of_mem h2;obtain⟨hj,rfl⟩:=zB.1 he;have h3:i=j:=by have:=(List.getElem_inj (h₀:=by simpa using hi) (h₁:=by simpa using hj) h.nd).1 (by simpa using h1);exact this
  subst h3;rfl
def q15{near:Gy}(h:NK near):∀p∈kvN near,isKey prog 66 p.1:=λp hp=>by obtain⟨e,he,rfl⟩:=zO.1 hp;exact Vf (h.ok e he)
section
variable {nt k:Nat} {S:AS} {ops:Array Oper} {o:Oper} {R:AS->Prop}
def Sd {wr:Bool} (hw:Qt ops S o=some true) (hd:Wq nt o=true) {x ix:Operand} (ho:o.op= .lookup 109 x ix true) {id:Nat} (hx:rho S.sl x=some (.mref id)) {s:Int×Int} (z1:rho S.sl ix=some (.agg [.i s.1,.i s.2])) {near:Gy} (z6:S.hp[id]?=some (mpN near)) (hn:NK near) (hs:okK s)
  (hR:R (S.putD o.dst (.tup [.i ((lkN near s).getD 0:Nat),.bool (lkN near s).isSome]))):Wb prog nt k wr ops o S R:=by
 refine U5 tOk hw hd ho g2y rfl T3 v0f hx z1 z6 (Vf hs) (q15 hn) (z:= .i 0) rfl (λj p hp he=>?_) (λz7=>?_)
 ·unfold kvN at hp;rw[zU]at hp;obtain⟨e,z8,rfl⟩:=zS.1 hp;have za:e.1=s:=z1i he;rw[<-za,q2t hn z8]at hR;exact hR
 have:lkN near s=none:=by rw[C2];intro hm;obtain⟨e,he,rfl⟩:=zO.1 hm;exact z7 _ (zO.2 ⟨e,he,rfl⟩) rfl
 rw[this]at hR;exact hR
def u0j (hw:Qt ops S o=some true) (hd:Wq nt o=true) {x ix y:Operand} (ho:o.op= .mapUpdate 109 x ix y) {id:Nat} (hx:rho S.sl x=some (.mref id)) {s:Int×Int} (z1:rho S.sl ix=some (.agg [.i s.1,.i s.2])) {d:Nat} (hy:rho S.sl y=some (.i d)) {near:Gy} (z6:S.hp[id]?=some (mpN near)) (hn:NK near) (hs:okK s)
  (z7:s∉near.map (·.1)) (hR:R (({ S with hp:=S.hp.set id (mpN (near++[(s,d)])) }:AS).putD o.dst (.tup []))):Wb prog nt k true ops o S R:=by
 refine Ep tOk hw hd ho g2y rfl v0f hx z1 hy (by simp[AV.pure]) z6 (Vf hs) (q15 hn) (λj p hp he=>?_) (λzb=>?_)
 ·unfold kvN at hp;rw[zU]at hp;obtain⟨e,z8,rfl⟩:=zS.1 hp;have za:e.1=s:=z1i he;exact absurd (zO.2 ⟨e,zJ z8,za⟩) z7
 have:kvN near++[(kyP s,.i d)]=kvN (near++[(s,d)]):=by simp[kvN]
 unfold mpN at hR;rw[<-this]at hR;exact hR
end
end
section
open Go.Maps
def x1x{a b:Aut}{i j:Nat}(hi:i<a.fin.length)(hj:j<b.fin.length):Yg a b ((i:Int),(j:Int))=(a.fin[i] != b.fin[j]):=by unfold Yg;simp[List.getD,hi,hj]
def j1j{a b:Aut}(ha:OkA a)(hb:OkA b){s:Int×Int}{e:Sy×(Int×Int)}(he:e∈W4 a b s):inS a e.2.1/\inS b e.2.2:=by obtain⟨m,hm,n,hn,_,rfl⟩:=Fy.1 he;have h1:=(ha.mv m (Ry.1 hm).1).dst;have h2:=(hb.mv n (Ry.1 hn).1).dst;exact⟨⟨h1.1,h1.2⟩,⟨h2.1,h2.2⟩⟩
def Mh{a b:Aut}(ha:OkA a)(hb:OkA b){s:Int×Int}(h:inS a s.1/\inS b s.2):okK s:=by have h1:=ha.fin;have h2:=hb.fin;obtain⟨⟨_,_⟩,⟨_,_⟩⟩:=h;unfold okK;omega
attribute [local irreducible] We E5 Y7 W4 Yg lkN
def f1x(a:Aut)(ha:OkA a)(H:List AObj)(A:Nat)(hA:H[A]?=some (.vars (Wp a)))(p q:Int)(hp:inS a p)(hq:inS a q):
  FC prog 227 [.i p,.i q,.vptr A 0] H (λr H'=>r= .bool (Yg a a (p,q))/\H'=H):=by
 refine fcB func227 results227 ntmps227 ?_;simp only[Qe];obtain⟨i,rfl⟩:∃i:Nat,p=i:=⟨p.toNat,(An hp).2.symm⟩
 obtain⟨j,rfl⟩:∃j:Nat,q=j:=⟨q.toNat,(An hq).2.symm⟩
 have hi:i<a.fin.length:=by have:=hp.2;omega
 have hj:j<a.fin.length:=by have:=hq.2;omega
 rw[x1x hi hj];simp only[Wp]at hA;repeat(refine s_ ?_;simp)
 refine Ql tOk mixed [] (.val 0 (.val 1 (.val 2 (.val 3 (.val 4 (.val 5 (.val 6 (.val 7 (.val 8 (.val 9 (.val 10 (.val 11 (.val 12 (.val 13 (.done))))))))))))))) rfl (by kernel_rfl) ?_;simp[hA,hi,hj];repeat(refine s_ ?_;simp)
 generalize a.fin[i]=x;generalize a.fin[j]=y;cases x<;>cases y<;>rfl
def Bd(near:Gy)(d:Int)(es:List (Sy×(Int×Int))):Bool:=es.any λe=>(lkN near e.2).isSome && decide (((lkN near e.2).getD 0:Nat)=d)
def d0h(near:Gy)(d:Int)(pre:List (Sy×(Int×Int)))(e:Sy×(Int×Int)):Bd near d (pre++[e])=(Bd near d pre || ((lkN near e.2).isSome && decide (((lkN near e.2).getD 0:Nat)=d))):=by simp[Bd]
def w17{near:Gy}{d:Int}{pre post:List (Sy×(Int×Int))}{e:Sy×(Int×Int)}(h:((lkN near e.2).isSome && decide (((lkN near e.2).getD 0:Nat)=d))=true):Bd near d (pre++e::post)=true:=by unfold Bd;rw[List.any_append,List.any_cons,h];simp
def f1p(near:Gy)(d:Int):Bd near d []=false:=rfl
attribute [local irreducible] Bd
def u1w(a:Aut)(ha:OkA a)(H:List AObj)(A N M D:Nat)(near:Gy)(d:Nat)(hA:H[A]?=some (.vars (Wp a)))(hN:H[N]?=some (.vars [.mref M]))(hM:H[M]?=some (mpN near))(hD:H[D]?=some (.vars [.i d]))(hd:1<=d/\d<=1000000)(zb:NK near)(p q:Int)(hp:inS a p)(hq:inS a q):
  FC prog 228 [.i p,.i q,.vptr A 0,.vptr N 0,.vptr D 0] H (λr H'=>r= .bool (Bd near ((d:Int) - 1) (W4 a a (p,q)))/\∀i,i<H.length->H'[i]? =H[i]?):=by
 refine fcB func228 results228 ntmps228 ?_;simp only[Qe];have za:=hA;simp only[Wp]at za;have zl:=Qf hA;have zc:=Qf hN;have zd:=Qf hM;have ze:=Qf hD;have zf:∀L,(H++L)[A]?=some (.vars [.i a.types,.list (a.fin.map .bool),.list (a.mv.map encMv),.list (Y7 a)]):=λL=>Qb za L;repeat(refine s_ ?_;simp[zf])
 refine pcL (f1y a a p q) ?_;simp;repeat(refine s_ ?_;simp)
 refine Ew rfl (Rf:=λ_ H'=>(Bd near ((d:Int) - 1) (W4 a a (p,q))=false/\(∃sl' ps' a' b',H'[H.length+1]?=some (.lp true none 34 sl' ps' a' b'))/\H'[H.length]?=some (.vars [.bool false])/\∀i,i<H.length->H'[i]? =H[i]?)\/
  (Bd near ((d:Int) - 1) (W4 a a (p,q))=true/\(∃sl' ps' a' b',H'[H.length+1]?=some (.lp false (some .ret) 34 sl' ps' a' b'))/\H'[H.length]?=some (.vars [.bool true])/\∀i,i<H.length->H'[i]? =H[i]?)) ?_ ?_
 ·simp;refine Jt λH1 z1=>?_;have f0:H1[H.length]?=some (.vars [.bool false]):=by rw[z1,zH (by omega)];simp
  have fk:∀i,i<H.length->H1[i]? =H[i]? :=λi hi=>by rw[z1,zF hi]
  have fl:=congrArg (λh:List AObj=>h[H.length+1]?) z1;have zm:H1.length=H.length+2:=by rw[z1];simp
  simp at fl;clear z1;refine FC.mono (y1t a a ha ha rfl p q hp hq (H.length+1) (by rfl) (by rfl)
   (λpre H'=>Bd near ((d:Int) - 1) pre=false/\H'[H.length+1]? =H1[H.length+1]? /\H'[H.length]?=some (.vars [.bool false])/\∀i,i<H.length->H'[i]? =H[i]?)
   (λc H'=>c= .ret/\Bd near ((d:Int) - 1) (W4 a a (p,q))=true/\(∃sl' ps' a' b',H'[H.length+1]?=some (.lp false (some .ret) 34 sl' ps' a' b'))/\H'[H.length]?=some (.vars [.bool true])/\∀i,i<H.length->H'[i]? =H[i]?) H1
   (λk H' ⟨_,h2,_,_⟩=>h2.trans fl) ?_ ?_ ⟨f1p _ _,rfl,f0,fk⟩) ?_
  ·rintro k H' L ⟨h1,h2,h3,h4⟩;exact⟨h1,by rw[<-h2,zF (by rw[fl]at h2;exact Qf h2)],Qb h3 _,λi hi=>by rw[zF (by have:=Qf h3;omega)];exact h4 i hi⟩
  ·rintro pre e post H' hst ⟨h1,h2,h3,h4⟩ hlen;simp[Tg];have zg:=j1j ha ha (show e∈W4 a a (p,q) by rw[hst];simp);have zh:=Mh ha ha zg;have zn:=Qf (h2.trans fl);have z6:=d0h near ((d:Int) - 1) pre e;have z7:=λh=>w17 (near:=near) (d:=(d:Int) - 1) (pre:=pre) (post:=post) (e:=e) h;rw[<-hst]at z7;rw[h1,Bool.false_or]at z6;have zz:=Qh (h2.trans fl) .dead;have z0:(H'.set (H.length+1) .dead)[H.length]?=some (.vars [.bool false]):=Qd (by omega) h3 _;have zk:∀i,i<H.length->(H'.set (H.length+1) .dead)[i]? =H[i]? :=λi hi=>by rw[zE (by omega)];exact h4 i hi
   have zv:∀i cs,H1.length<=i->H'[i]?=some (.vars cs)->(H'.set (H.length+1) .dead)[i]?=some (.vars cs):=λi cs hi hc=>by rw[zE (by omega)];exact hc
   have zi:(H'.set (H.length+1) .dead).length=H'.length:=by simp
   rw[<-zi];generalize H'.set (H.length+1) .dead=Z at *
   have zN:=(zk N zc).trans hN;have zM:=(zk M zd).trans hM;have zD:=(zk D ze).trans hD;have zNA:∀L,(Z++L)[N]?=some (.vars [.mref M]):=λL=>Qb zN L;have zMA:∀L,(Z++L)[M]?=some (mpN near):=λL=>Qb zM L;have zDA:∀L,(Z++L)[D]?=some (.vars [.i d]):=λL=>Qb zD L;have z0A:∀L,(Z++L)[H.length]?=some (.vars [.bool false]):=λL=>Qb z0 L;have z0H:∀L hh,(Z++L)[H.length]'hh= .vars [.bool false]:=λL hh=>(yH hh).2 (z0A L);have zj:IntKind.i64.wrap ((d:Int) - 1)=d - 1:=wrap_i64 _ (by omega) (by omega);simp only[Ev];repeat(refine s_ ?_;simp[zNA,zDA])
   refine Sd rfl rfl rfl rfl (s:=e.2) rfl (near:=near) (zMA _) zb zh ?_;simp;generalize lkN near e.2=lk at *
   cases lk with
   |none=>
    simp at z6;repeat(refine s_ ?_;simp[zDA])
    refine Qa rfl (λh=>by simp at h) (λ_=>?_);repeat(refine s_ ?_;simp)
    refine⟨Qb zz _,.inl ⟨rfl,⟨z6,?_,?_,λi hi=>?_⟩,λi cs hi hc=>?_⟩⟩
    ·rw[fl];exact Qh (Qb zz _) _
    ·exact z0A _
    ·rw[zE (by omega),zF (by omega)];exact zk i hi
    exact Qd (j:=H.length+1) (by omega) (Qb (zv i cs hi hc) _) _
   |some kd=>
    simp at z6 z7;repeat(refine s_ ?_;simp[zDA,zj])
    refine Qa rfl (λh=>?_) (λh=>?_)
    ·have z8:(kd:Int)=d - 1:=by simpa using h
     repeat(refine s_ ?_;simp[z0A,z0H])
     refine⟨Qd (j:=H.length) (by omega) (Qb zz _) _,.inr ⟨.ret,rfl,rfl,z7 z8,?_,?_,λi hi=>?_⟩⟩
     ·exact⟨_,_,_,_,Qh (Qd (j:=H.length) (by omega) (Qb zz _) _) _⟩
     ·exact Qh (z0A _) _
     rw[zE (by omega),zE (by omega),zF (by omega)];exact zk i hi
    have z8:¬(kd:Int)=d - 1:=by simpa using h
    repeat(refine s_ ?_;simp)
    refine⟨Qb zz _,.inl ⟨rfl,⟨by rw[z6,decide_eq_false z8],?_,?_,λi hi=>?_⟩,λi cs hi hc=>?_⟩⟩
    ·rw[fl];exact Qh (Qb zz _) _
    ·exact z0A _
    ·rw[zE (by omega),zF (by omega)];exact zk i hi
    exact Qd (j:=H.length+1) (by omega) (Qb (zv i cs hi hc) _) _
  rintro _ H' (⟨h1,h2,h3,h4⟩|⟨c,rfl,h1,h2,h3,h4⟩)
  ·exact .inl ⟨h1,⟨_,_,_,_,h2.trans fl⟩,h3,h4⟩
  exact .inr ⟨h1,h2,h3,h4⟩
 rintro _ H' (⟨h1,⟨sl',ps',a',b',h2⟩,h3,h4⟩|⟨h1,⟨sl',ps',a',b',h2⟩,h3,h4⟩)
 ·refine⟨true,none,34,sl',ps',a',b',by simpa using h2,?_⟩;simp;have z0:=Qd (j:=H.length+1) (by omega) h3 .dead;have z0H:∀hh,(H'.set (H.length+1) .dead)[H.length]'hh= .vars [.bool false]:=λhh=>(yH hh).2 z0;rw[h1];have zk:∀i,i<H.length->(H'.set (H.length+1) .dead)[i]? =H[i]? :=λi hi=>by rw[zE (by omega)];exact h4 i hi
  generalize H'.set (H.length+1) .dead=Z at *
  repeat(refine s_ ?_;simp[z0,z0H,Qh z0])
  exact λi hi=>by rw[zE (by omega)];exact zk i hi
 refine⟨false,some .ret,34,sl',ps',a',b',by simpa using h2,?_⟩;simp;have z0:=Qd (j:=H.length+1) (by omega) h3 .dead;rw[h1];have zk:∀i,i<H.length->(H'.set (H.length+1) .dead)[i]? =H[i]? :=λi hi=>by rw[zE (by omega)];exact h4 i hi
 generalize H'.set (H.length+1) .dead=Z at *
 repeat(refine s_ ?_;simp[z0])
 exact zk
end
section
open Go.Maps
def c0j{G K:List AObj}(h:∀i,i<G.length->K[i]? =G[i]?):∃E,K=G++E:=by
 refine⟨K.drop G.length,?_⟩;have hl:G.length<=K.length:=by
  by_cases h0:G.length=0
  ·omega
  have:=h (G.length - 1) (by omega);have h2:G[G.length - 1]?=some (G[G.length - 1]'(by omega)):=zI (by omega);rw[h2]at this;have:=Qf this;omega
 refine List.ext_getElem? λi=>?_;by_cases hi:i<G.length
 ·rw[zF hi];exact h i hi
 rw[zH (by omega),List.getElem?_drop]
 congr 1;omega
def fdR(n:Nat)(g:Int×Int->Bool)(i:Nat):List (Int×Int):=((yR i).flatMap λx:Nat=>(yR n).map λy:Nat=>((x:Int),(y:Int))).filter g
def fdC(g:Int×Int->Bool)(i j:Nat):List (Int×Int):=((yR j).map λy:Nat=>((i:Int),(y:Int))).filter g
def v0g(n:Nat)(g:Int×Int->Bool):fdR n g 0=[]:=by simp[fdR]
def y0w(g:Int×Int->Bool)(i:Nat):fdC g i 0=[]:=by simp[fdC]
def f1t(n:Nat)(g:Int×Int->Bool)(i:Nat):fdR n g (i+1)=fdR n g i++fdC g i n:=by unfold fdR fdC;rw[wM,wJ,vV];simp
def g1w(g:Int×Int->Bool)(i j:Nat):fdC g i (j+1)=fdC g i j++(if g ((i:Int),(j:Int))=true then [((i:Int),(j:Int))]else []):=by
 unfold fdC;rw[wM,yU,vV]
 congr 1
 rw[List.map_cons,List.map_nil,List.filter_cons,List.filter_nil]
def j2a(a:Aut)(g:Int×Int->Bool):fdR a.fin.length g a.fin.length=(A0 a a).filter g:=by
 unfold fdR A0 Ee
 congr 1
 rw[List.flatMap_map];simp[vX,Function.comp_def]
def q0o(n:Nat):∀i:Nat,((yR i).map λ_:Nat=>n).sum=i * n
 |0=>by simp
 |i+1=>by rw[wM,yU,List.sum_append,q0o n i];simp[uH]
def j2k(n:Nat)(g:Int×Int->Bool)(i j:Nat)(hi:i<=n)(hj:j<=n):(fdR n g i++fdC g i j).length<=n * n+n:=by
 rw[z_];have h1:(fdR n g i).length<=i * n:=by
  unfold fdR;refine yL (xG _ _) ?_;rw[List.length_flatMap];have:((yR i).map λx:Nat=>((yR n).map λy:Nat=>((x:Int),(y:Int))).length).sum=i * n:=by simpa using q0o n i
  omega
 have h2:(fdC g i j).length<=j:=by unfold fdC;refine yL (xG _ _) ?_;simp
 have:=Nat.mul_le_mul_right n hi;omega
def Ha(a:Aut)(near:Gy)(pf:Int×Int->Bool)(s:Int×Int):Bool:=(lkN near s).isNone && pf s
def V9(a:Aut)(near:Gy)(pf:Int×Int->Bool):List (Int×Int):=(A0 a a).filter (Ha a near pf)
def Vo{a:Aut}{near:Gy}{pf:Int×Int->Bool}{s:Int×Int}(h:s∈V9 a near pf):inP a s/\s∉near.map (·.1):=by obtain⟨h1,h2⟩:=List.mem_filter.1 h;refine⟨x1p h1,C2.1 ?_⟩;unfold Ha at h2;simp only[zX,Option.isNone_iff_eq_none]at h2;exact h2.1
def f09(a:Aut)(near:Gy)(pf:Int×Int->Bool):(V9 a near pf).Nodup:=(Zx a).filter _
def NK.round{a:Aut}(ha:OkA a){near:Gy}(h:NK near)(pf:Int×Int->Bool)(d:Nat){l r:List (Int×Int)}(he:V9 a near pf=l++r):NK (near++l.map λs=>(s,d)):=by
 have hl:∀s∈l,s∈V9 a near pf:=λs hs=>by rw[he];simp[hs]
 refine⟨?_,λe hm=>?_⟩
 ·rw[yU,vN];refine⟨h.nd,?_,λx hx y hy e=>?_⟩
  ·have:=f09 a near pf;rw[he,vN]at this;simpa[Function.comp_def]using this.1
  simp only[vX,Function.comp_def,se]at hy;subst e;exact(Vo (hl _ hy)).2 hx
 rcases zV.1 hm with hm|hm
 ·exact h.ok e hm
 obtain⟨s,hs,rfl⟩:=zO.1 hm;exact Mh ha ha (Vo (hl s hs)).1
attribute [local irreducible] lkN Ha fdR fdC
def x0e (a:Aut) (ha:OkA a) (H:List AObj) (nC N M:Nat) (near:Gy) (d:Nat) (pf:Int×Int->Bool) (f:FuncId) (cs:List AV) (hn:H[nC]?=some (.vars [.i a.fin.length])) (hN:H[N]?=some (.vars [.mref M])) (hM:H[M]?=some (mpN near)) (zv:NK near)
  (zf:∀(p q:Int) (H':List AObj),inS a p->inS a q->(∀i,i<H.length->H'[i]? =H[i]?)->FC prog f ([]++[.i p,.i q]++cs) H' (λr K=>r= .bool (pf (p,q))/\∀i,i<H'.length->K[i]? =H'[i]?)):
  FC prog 226 [.i d,.fn (.func f) [] cs,.vptr nC 0,.vptr N 0] H (λr H'=>r= .bool (decide (0<(V9 a near pf).length))/\H'[M]?=some (mpN (near++(V9 a near pf).map λs=>(s,d)))/\∀i,i<H.length->i≠M->H'[i]? =H[i]?):=by
 refine fcB func226 results226 ntmps226 ?_;simp only[Qe];have za:=ha.fin;have yl:=Qf hn;have y7:=Qf hN;have y8:=Qf hM;have y9:=j2a a (Ha a near pf);have ya:=j2k a.fin.length (Ha a near pf);have yb:a.fin.length * a.fin.length<=65536:=yL (vY za.2 za.2) (by decide);repeat(refine s_ ?_;simp[hn])
 refine Qz 7 66 2 rfl ?_;simp;have hst:=SL.start H 66 2;refine Qj (Qc (sl':=[(0,.i d),(1,.fn (.func f) [] cs),(2,.vptr nC 0),(3,.vptr N 0),(6,.bool false),(7,.sl H.length 2 0 (fdR a.fin.length (Ha a near pf) 0).length),(14,.i a.fin.length),(15,.i (0:Nat))]) ?_ (by simp[v0g]));refine Qi (F:=λ(u:Nat×Nat×List AObj)=>⟨[(0,.i d),(1,.fn (.func f) [] cs),(2,.vptr nC 0),(3,.vptr N 0),(6,.bool false),(7,.sl u.2.1 2 0 (fdR a.fin.length (Ha a near pf) u.1).length),(14,.i a.fin.length),(15,.i u.1)],u.2.2⟩)
  (λu=>u.1<=a.fin.length/\SL H u.2.2 u.2.1 66 2 ((fdR a.fin.length (Ha a near pf) u.1).map kyP)) (λu=>a.fin.length - u.1) ?_ (0,H.length,_) ⟨yW _,by rw[v0g];exact hst⟩
 rintro⟨i,q,G⟩ ⟨hi,hs⟩ ih;simp only at hi hs ih |-;repeat(refine s_ ?_;simp)
 refine Qa rfl (λyc=>?_) (λyd=>?_)
 ·have ye:i<a.fin.length:=by simpa using yc
  have hw:=wz i (by omega);have zw:=λq' G'=>ih (i+1,q',G');simp only[f1t]at zw;have gn:=hs.kp hn;repeat(refine s_ ?_;simp[gn])
  refine Qj (Qc (sl':=[(0,.i d),(1,.fn (.func f) [] cs),(2,.vptr nC 0),(3,.vptr N 0),(6,.bool false),(7,.sl q 2 0 (fdR a.fin.length (Ha a near pf) i++fdC (Ha a near pf) i 0).length),(8,.i i),(14,.i a.fin.length),(15,.i i),(18,.i a.fin.length),(19,.i (0:Nat))]) ?_ (by simp[y0w]));refine Qi (F:=λ(u:Nat×Nat×List AObj)=>⟨[(0,.i d),(1,.fn (.func f) [] cs),(2,.vptr nC 0),(3,.vptr N 0),(6,.bool false),(7,.sl u.2.1 2 0 (fdR a.fin.length (Ha a near pf) i++fdC (Ha a near pf) i u.1).length),(8,.i i),(14,.i a.fin.length),(15,.i i),(18,.i a.fin.length),(19,.i u.1)],u.2.2⟩)
   (λu=>u.1<=a.fin.length/\SL H u.2.2 u.2.1 66 2 ((fdR a.fin.length (Ha a near pf) i++fdC (Ha a near pf) i u.1).map kyP)) (λu=>a.fin.length - u.1) ?_ (0,q,G) ⟨yW _,by rw[y0w,xB];exact hs⟩
  clear hs gn;clear G q;rintro⟨j,q,G⟩ ⟨hj,hs⟩ ih2;simp only at hj hs ih2 |-;repeat(refine s_ ?_;simp)
  refine Qa rfl (λzg=>?_) (λzh=>?_)
  ·have zx:j<a.fin.length:=by simpa using zg
   have zi:=wz j (by omega);have z1:=λq' G'=>ih2 (j+1,q',G');simp only[g1w]at z1;have gN:=hs.kp hN;have gM:=hs.kp hM;have zy:inS a (i:Int):=⟨by omega,by omega⟩
   have zz:inS a (j:Int):=⟨by omega,by omega⟩
   have zj:okK ((i:Int),(j:Int)):=Mh ha ha ⟨zy,zz⟩;have ym:=ya i j hi hj;have yf:=hs.le;have zk:∀x,x<H.length->G[x]? =H[x]? :=λx hx=>by have h1:H[x]?=some H[x]:=zI hx;rw[h1];exact hs.kp h1
   have z7:Ha a near pf ((i:Int),(j:Int))=((lkN near ((i:Int),(j:Int))).isNone && pf ((i:Int),(j:Int))):=by unfold Ha;rfl
   repeat(refine s_ ?_;simp[gN])
   refine Sd rfl rfl rfl rfl (s:=((i:Int),(j:Int))) rfl (near:=near) gM zv zj ?_;simp;generalize hL:fdR a.fin.length (Ha a near pf) i++fdC (Ha a near pf) i j=L at *;simp only[<-xQ,hL]at z1
   have zb:(fdR a.fin.length (Ha a near pf) i).length+(fdC (Ha a near pf) i j).length=L.length:=by rw[<-hL,z_]
   cases hlk:lkN near ((i:Int),(j:Int))with
   |some kd=>
    rw[hlk]at z7;simp at z7;simp only[z7,uI,if_false,xB]at z1;repeat(refine s_ ?_;simp)
    refine Qx rfl rfl ?_;simp;refine Qq rfl ?_;repeat(refine s_ ?_;simp[zi])
    refine Qc (sl':=[(0,.i d),(1,.fn (.func f) [] cs),(2,.vptr nC 0),(3,.vptr N 0),(6,.bool false),(7,.sl q 2 0 L.length),(8,.i i),(14,.i a.fin.length),(15,.i i),(18,.i a.fin.length),(19,.i (j+1:Nat))]) ?_ (by simp[zb]);exact z1 q G ⟨by omega,hs⟩ (by omega)
   |none=>
    rw[hlk]at z7;simp at z7;repeat(refine s_ ?_;simp)
    refine Q3 rfl rfl (zf i j G zy zz zk) rfl ?_;rintro _ K ⟨rfl,hK⟩;obtain⟨E,rfl⟩:=c0j hK;have z8:=hs.add E;generalize G++E=G2 at *
    simp;cases hpf:pf ((i:Int),(j:Int))with
    |true=>
     rw[hpf]at z7;simp only[z7,if_true]at z1;have y0:(L.map kyP).length=L.length:=by simp
     generalize zl:L.map kyP=acc at *;refine Qq rfl ?_
     repeat(refine s_ ?_;simp)
     refine apS T41 T66 ?_;simp[Qb z8.arr,Qg z8.arr,y0,zb];refine⟨by simp[Wf,Qb z8.arr,Qg z8.arr,y0,zb]<;>omega,?_⟩;repeat(refine s_ ?_;simp[zi])
     refine Qc (sl':=[(0,.i d),(1,.fn (.func f) [] cs),(2,.vptr nC 0),(3,.vptr N 0),(6,.bool false),(7,.sl (G2.length+1) 2 0 (L++[((i:Int),(j:Int))]).length),(8,.i i),(14,.i a.fin.length),(15,.i i),(18,.i a.fin.length),(19,.i (j+1:Nat))]) ?_ (by simp[zb]);refine z1 (G2.length+1) _ ⟨by omega,?_⟩ (by omega);have:=z8.put [AObj.arr 66 2 [kyP ((i:Int),(j:Int))]] (acc++[kyP ((i:Int),(j:Int))]) rfl;rw[show(L++[((i:Int),(j:Int))]).map kyP=acc++[kyP ((i:Int),(j:Int))] by rw[<-zl];simp];exact this
    |false=>
     rw[hpf]at z7;simp only[z7,uI,if_false,xB]at z1;refine Qq rfl ?_;repeat(refine s_ ?_;simp[zi])
     refine Qc (sl':=[(0,.i d),(1,.fn (.func f) [] cs),(2,.vptr nC 0),(3,.vptr N 0),(6,.bool false),(7,.sl q 2 0 L.length),(8,.i i),(14,.i a.fin.length),(15,.i i),(18,.i a.fin.length),(19,.i (j+1:Nat))]) ?_ (by simp[zb]);exact z1 q G2 ⟨by omega,z8⟩ (by omega)
  have zc:j=a.fin.length:=by simp at zh;omega
  subst zc;repeat(refine s_ ?_;simp[hw])
  refine Qc (sl':=[(0,.i d),(1,.fn (.func f) [] cs),(2,.vptr nC 0),(3,.vptr N 0),(6,.bool false),(7,.sl q 2 0 (fdR a.fin.length (Ha a near pf) i++fdC (Ha a near pf) i a.fin.length).length),(14,.i a.fin.length),(15,.i (i+1:Nat))]) ?_ (by simp);exact zw q G ⟨by omega,hs⟩ (by omega)
 have zm:i=a.fin.length:=by simp at yd;omega
 subst zm;rw[y9]at hs |-;have yg:(A0 a a).filter (Ha a near pf)=V9 a near pf:=rfl;rw[yg]at hs |-;have yn:(V9 a near pf).length<=65536:=by refine yL (xG _ _) ?_;rw[Pm];exact yb
 have y1:=λl r h=>zv.round ha pf d (l:=l) (r:=r) h;have y2:=λs h=>Vo (a:=a) (near:=near) (pf:=pf) (s:=s) h;have zn:=f09 a near pf;generalize V9 a near pf=L at *
 have zk:∀x,x<H.length->G[x]? =H[x]? :=λx hx=>by have h1:H[x]?=some H[x]:=zI hx;rw[h1];exact hs.kp h1
 have yf:=hs.le;have yo:H.length<=q:=hs.ge;refine Qn (sl':=[(0,.i d),(3,.vptr N 0),(6,.bool false),(7,.sl q 2 0 L.length)]) ?_ (by simp);refine Wi q hs.arr ?_;simp[AV.fz];rw[zT (by simp)];have yk:∀x,x<H.length->(G.set q .dead)[x]? =H[x]? :=λx hx=>by rw[zE (by omega)];exact zk x hx
 generalize G.set q .dead=Y at *
 repeat(refine s_ ?_;simp)
 refine Qj (Qc (sl':=[(0,.i d),(3,.vptr N 0),(6,.bool false),(7,.list (L.map kyP)),(46,.list (L.map kyP)),(47,.i L.length),(48,.i (0:Nat))]) ?_ (by simp));refine Qi (F:=λ(u:Nat×List AObj)=>⟨[(0,.i d),(3,.vptr N 0),(6,.bool false),(7,.list (L.map kyP)),(46,.list (L.map kyP)),(47,.i L.length),(48,.i u.1)],u.2⟩)
  (λu=>u.1<=L.length/\u.2[M]?=some (mpN (near++(L.take u.1).map λs=>(s,d)))/\∀i,i<H.length->i≠M->u.2[i]? =H[i]?) (λu=>L.length - u.1) ?_ (0,Y) ⟨yW _,by simpa using(yk M y8).trans hM,λi hi _=>yk i hi⟩
 clear yk;clear Y;rintro⟨k,Y⟩ ⟨hk,yM,yk⟩ ih3;simp only at hk yM yk ih3 |-;repeat(refine s_ ?_;simp)
 refine Qa rfl (λzo=>?_) (λzp=>?_)
 ·have z6:k<L.length:=by simpa using zo
  have yh:=wz k (by omega);have yi:N≠M:=λe=>by rw[e,hM]at hN;simp[mpN]at hN
  have y3:(L.map kyP)[k]?=some (kyP L[k]):=by simp[z6]
  have y4:∀hh,(L.map kyP)[k]'hh=kyP L[k]:=λhh=>by simp
  have zq:L.take k++L[k]::L.drop (k+1)=L:=by rw[<-wH z6,xO]
  have zr:=y1 (L.take k) (L[k]::L.drop (k+1)) zq.symm;have y5:=y2 L[k] (zK z6);have zj:=Mh ha ha y5.1;have zt:L[k]∉(near++(L.take k).map λs=>(s,d)).map (·.1):=by rw[yU,zV,not_or];refine⟨y5.2,λh=>?_⟩;simp only[vX,Function.comp_def,se]at h;rw[<-zq,vN]at zn;exact zn.2.2 _ h _ List.mem_cons_self rfl
  have y6:(L.take (k+1)).map (λs=>(s,d))=(L.take k).map (λs=>(s,d))++[(L[k],d)]:=by rw[zR z6,yU];rfl
  have zd:=λG'=>ih3 (k+1,G');simp only[y6,<-xQ]at zd;generalize L[k]=s at *;clear zq y6 zn y2 y1;generalize near++(L.take k).map (λs=>(s,d))=nr at *
  have yN:=(yk N y7 yi).trans hN;have yNA:∀E,(Y++E)[N]?=some (.vars [.mref M]):=λE=>Qb yN E;simp only[kyP]at y3 y4;repeat(refine s_ ?_;simp[y3,y4,z6,yNA])
  refine u0j rfl rfl rfl rfl (s:=s) rfl (d:=d) rfl (near:=nr) (Qb yM _) zr zj zt ?_;simp;repeat(refine s_ ?_;simp[yh])
  refine Qc (sl':=[(0,.i d),(3,.vptr N 0),(6,.bool false),(7,.list (L.map kyP)),(46,.list (L.map kyP)),(47,.i L.length),(48,.i (k+1:Nat))]) ?_ (by simp);refine zd _ ⟨by omega,Qh (Qb yM _) _,λi hi zu=>?_⟩ (by omega);have yj:i<Y.length:=Qf ((yk i hi zu).trans (zI hi));rw[zE (Ne.symm zu),zF yj];exact yk i hi zu
 have ze:k=L.length:=by simp at zp;omega
 subst ze;rw[yB]at yM;repeat(refine s_ ?_;simp)
 exact⟨yM,yk⟩
end
section
open Go.Maps
attribute [simp] d2w
def M5(a b:Aut)(s:Int×Int):PC prog 129 [encA a,encA b,pqr s] (λr=>r= .fn (.func 190) [] [.iptr (Qk a),.iptr [.i s.1,.i s.2],.iptr (Qk b)]):=by refine pcB func129 results129 ntmps129 ?_;simp only[Qe];simp only[encA,pqr];repeat(refine s_ ?_;simp)
def oS(s:Int):Option Mv->Int
 |some m=>m.src
 |none=>s
def oP:Option Mv->List AV
 |some m=>m.on.map encL
 |none=>[]
def y0x(s:Int)(o:Option Mv):W5 s o= .agg [.i (oS s o),.i (D2 o),.list (oP o)]:=by cases o<;>rfl
def ldR(a b:Aut)(s:Int×Int)(o:Option Mv)(k:Nat):List Stp:=((Wo b s.2).take k).filterMap (j15 a b s o)
def ldT(a b:Aut)(s:Int×Int)(i:Nat):List Stp:=((Wo a s.1).take i).flatMap λo=>ldR a b s o (Wo b s.2).length
def x1q(a b:Aut)(s:Int×Int):ldT a b s (Wo a s.1).length=V7 a b s:=by unfold ldT ldR V7;rw[yB,yB]
def v02(a b:Aut)(s:Int×Int):ldT a b s 0=[]:=by simp[ldT]
def k1b(a b:Aut)(s:Int×Int)(o:Option Mv):ldR a b s o 0=[]:=by simp[ldR]
def y0p(a b:Aut)(s:Int×Int){i:Nat}{o:Option Mv}(h:(Wo a s.1)[i]?=some o):ldT a b s (i+1)=ldT a b s i++ldR a b s o (Wo b s.2).length:=by obtain⟨hi,rfl⟩:=zB.1 h;unfold ldT;rw[zR hi,wJ];simp
def g1s(a b:Aut)(s:Int×Int)(o:Option Mv){k:Nat}{r:Option Mv}(h:(Wo b s.2)[k]?=some r):ldR a b s o (k+1)=ldR a b s o k++(match Bc (w0m a b s o r)with|some x=>[(x,(D2 o,D2 r))]|none=>[]):=by
 obtain⟨hk,rfl⟩:=zB.1 h;unfold ldR;rw[zR hk,uk]
 congr 1
 simp only[List.filterMap_cons,List.filterMap_nil,f1v];cases Bc (w0m a b s o (Wo b s.2)[k])<;>rfl
def y1r(a b:Aut)(s:Int×Int)(o:Option Mv)(k:Nat):(ldR a b s o k).length<=k:=by unfold ldR;refine yL (List.length_filterMap_le _ _) ?_;rw[List.length_take];omega
def w04(a b:Aut)(s:Int×Int):∀i,(ldT a b s i).length<=i * (Wo b s.2).length
 |0=>by rw[v02];simp
 |i+1=>by
  have ih:=w04 a b s i;by_cases h:i<(Wo a s.1).length
  ·rw[y0p a b s (zI h),z_,uH];have:=y1r a b s (Wo a s.1)[i] (Wo b s.2).length;omega
  have e:ldT a b s (i+1)=ldT a b s i:=by unfold ldT;rw[zT (by omega),zT (by omega)]
  rw[e,uH];omega
def Hc{a:Aut}(ha:OkA a)(s:Int):(Wo a s).length<=2049/\0<(Wo a s).length:=by have h:(mvS a s).length<=a.mv.length:=xG _ _;have:=ha.mvs;unfold Wo;simp;omega
def x2t{a b:Aut}(ha:OkA a)(hb:OkA b)(s:Int×Int)(o:Option Mv){i k:Nat}(hi:i<(Wo a s.1).length)(hk:k<=(Wo b s.2).length):(ldT a b s i++ldR a b s o k).length<=4198401:=by
 have h1:=w04 a b s i;have h2:=y1r a b s o k;have h3:=(Hc ha s.1).1;have h4:=(Hc hb s.2).1;rw[z_];have h5:i * (Wo b s.2).length+(Wo b s.2).length<=2049 * 2049:=by rw[<-uH];exact vY (by omega) h4
 omega
def z1u{a:Aut}(ha:OkA a){s:Int}{o:Option Mv}(h:o∈Wo a s):(∀p∈Xj o,PCk a.types.toNat p)/\(∀p∈Sz a s o,PCk a.types.toNat p)/\(Xj o).length<=1/\(Sz a s o).length<=2048:=by
 have hl:(mvS a s).length<=a.mv.length:=xG _ _;have:=ha.mvs;rcases Od.1 h with rfl|⟨m,hm,rfl⟩
 ·refine⟨λp h=>(by cases h),λp hp=>?_,by simp[Xj],by simp[Sz];omega⟩;obtain⟨m,hm,rfl⟩:=zO.1 hp;exact(ha.mv m (Rz.1 hm).1).on
 refine⟨λp hp=>?_,λp h=>(by cases h),by simp[Xj],by simp[Sz]⟩;rw[List.mem_singleton.1 hp];exact(ha.mv m (Rz.1 hm).1).on
def z0v(p q:List Prd):Ov [p,q]=p++q:=by simp[Ov]
attribute [local irreducible] Wo Xj Sz V7 ldR ldT Bc It Ov
def Zp (a b:Aut) (ha:OkA a) (hb:OkA b) (ht:b.types=a.types) (yi:Dta a) (yj:Dta b) (s:Int×Int) (l:Nat) {z7:Nat} {sl':List (Nat×AV)} {ps:List Tmp} {asg body:Code} (yk:ps.length=1) (yl:(ps.all λp=>decide (p<z7))=true)
  (Inv:List Stp->List AObj->Prop) (Done:Code->List AObj->Prop) (H0:List AObj)
  (hI:∀k H,Inv k H->H[l]?=some (.lp true none z7 sl' ps asg body))
  (z8:∀k H L,Inv k H->Inv k (H++L))
  (zc:∀pre e post H,It a b s=pre++e::post->Inv pre H->H0.length<=H.length->AWP prog z7 H.length asg (Se (AWP prog z7 H.length body (y0j l (λjm K2=>(jm=none/\Inv (pre++[e]) (K2.set l (.lp true none z7 sl' ps asg body))/\∀i cs,H0.length<=i->H[i]?=some (.vars cs)->(K2.set l (.lp true none z7 sl' ps asg body))[i]?=some (.vars cs))\/∃c,jm=some c/\Done c (K2.set l (.lp false (some c) z7 sl' ps asg body))))) (λ_ _=>False)) ⟨Tg sl' ps [Ev e],H.set l .dead⟩)
  (h0:Inv [] H0):FC prog 190 [.yld l,.iptr (Qk a),.iptr [.i s.1,.i s.2],.iptr (Qk b)] H0 (λ_ H'=>Inv (It a b s) H'\/∃c,Done c H'):=by
 refine fcB func190 results190 ntmps190 ?_;simp only[Qe];have cOa:=Kq a s.1 (by have:=ha.mvs;omega);have cOb:=Kq b s.2 (by have:=hb.mvs;omega);have ym:=Hc ha s.1;have yn:=Hc hb s.2;simp only[encA]at cOa cOb;repeat(refine s_ ?_;simp)
 refine Ql tOk mixed [] (.val 0 (.val 1 (.val 2 (.val 4 (.val 5 (.val 6 (.one 3 (.one 7 (.val 8 (.val 9 (.done))))))))))) rfl (by kernel_rfl) ?_;simp;refine pcL (cOa) ?_;simp;refine pcL (cOb) ?_;simp;repeat(refine s_ ?_;simp)
 refine Qz 5 184 4 rfl ?_;simp;have hst:=SL.start H0 184 4;have y3:=v02 a b s;refine Qj (Qc (sl':=[(0,.yld l),(1,.iptr (Qk a)),(2,.iptr [.i s.1,.i s.2]),(3,.iptr (Qk b)),(5,.sl H0.length 4 0 (ldT a b s 0).length),(6,.list ((Wo a s.1).map (W5 s.1))),(7,.list ((Wo b s.2).map (W5 s.2))),(28,.list ((Wo a s.1).map (W5 s.1))),(29,.i (Wo a s.1).length),(30,.i (0:Nat))]) ?_ (by simp[y3]));refine Qi (P:=prog) (F:=λ(u:Nat×Nat×List AObj)=>⟨[(0,.yld l),(1,.iptr (Qk a)),(2,.iptr [.i s.1,.i s.2]),(3,.iptr (Qk b)),(5,.sl u.2.1 4 0 (ldT a b s u.1).length),(6,.list ((Wo a s.1).map (W5 s.1))),(7,.list ((Wo b s.2).map (W5 s.2))),(28,.list ((Wo a s.1).map (W5 s.1))),(29,.i (Wo a s.1).length),(30,.i u.1)],u.2.2⟩)
  (λu=>u.1<=(Wo a s.1).length/\SL H0 u.2.2 u.2.1 184 4 ((ldT a b s u.1).map Ev)) (λu=>(Wo a s.1).length - u.1) ?_ (0,H0.length,_) ⟨yW _,by rw[y3];simpa using hst⟩
 rintro⟨i,q,G⟩ ⟨hi,g⟩ ih;simp only at hi g ih |-;repeat(refine s_ ?_;simp)
 refine Qa rfl (λyo=>?_) (λyp=>?_)
 ·have zd:i<(Wo a s.1).length:=by simpa using yo
  have hw:=wz i (by omega);obtain⟨o,ho⟩:∃o,(Wo a s.1)[i]?=some o:=⟨_,zI zd⟩
  have y4:=zJ ho;obtain⟨k1,k2,k3,k4⟩:=z1u ha y4;have yq:=y0p a b s ho;have y5:=λk h=>x2t ha hb s o (i:=i) (k:=k) zd h;have zv:=λq' G'=>ih (i+1,q',G');simp only[yq]at zv;have cSa:=q0c a s.1 i o ho (by have:=ha.mvs;omega);have zw:=λr h=>y2d ha hb ht (s:=s) (o:=o) (r:=r) y4 h;have y6:=λk r h=>g1s a b s o (k:=k) (r:=r) h;have y7:=k1b a b s o;have zl:((Wo a s.1).map (W5 s.1))[i]?=some (.agg [.i (oS s.1 o),.i (D2 o),.list (oP o)]):=by rw[zU,ho,wG,y0x]
  have zn:∀hh,((Wo a s.1).map (W5 s.1))[i]'hh= .agg [.i (oS s.1 o),.i (D2 o),.list (oP o)]:=λhh=>(yH hh).2 zl;generalize oP o=vo at *;generalize ldT a b s i=A at *
  obtain⟨Bf,zm⟩:∃Bf:Nat->List Stp,∀k,Bf k=A++ldR a b s o k:=⟨_,λ_=>rfl⟩
  have y8:Bf 0=A:=by rw[zm,y7,xB]
  have yr:∀k r,(Wo b s.2)[k]?=some r->Bf (k+1)=Bf k++(match Bc (w0m a b s o r)with|some x=>[(x,(D2 o,D2 r))]|none=>[]):=λk r h=>by rw[zm,zm,y6 k r h,xQ]
  have yt:∀k,k<=(Wo b s.2).length->(Bf k).length<=4198401:=λk h=>by rw[zm];exact y5 k h
  have y9:=zm (Wo b s.2).length;simp only[<-y9]at zv;clear zm y6 y7 y5 y9;repeat(refine s_ ?_;simp[zl,zn,zd])
  refine pcL (cSa) ?_;simp;repeat(refine s_ ?_;simp)
  refine Wh λY hY=>?_;have yx:Y[G.length]?=some (.vars [.i (oS s.1 o),.i (D2 o),.list vo]):=by rw[hY,zH (by simp)];simp
  have gy:SL H0 Y q 184 4 ((Bf 0).map Ev):=by rw[hY,y8];exact g.add _
  clear hY g;generalize G.length=x at *;clear G;clear zl zn;refine Qj (Qc (sl':=[(0,.yld l),(1,.iptr (Qk a)),(2,.iptr [.i s.1,.i s.2]),(3,.iptr (Qk b)),(5,.sl q 4 0 (Bf 0).length),(6,.list ((Wo a s.1).map (W5 s.1))),(7,.list ((Wo b s.2).map (W5 s.2))),(9,.vptr x 0),(10,LP (Xj o)),(11,LP (Sz a s.1 o)),(28,.list ((Wo a s.1).map (W5 s.1))),(29,.i (Wo a s.1).length),(30,.i i),(41,.list ((Wo b s.2).map (W5 s.2))),(42,.i (Wo b s.2).length),(43,.i (0:Nat))]) ?_ (by simp[y8]))
  refine Qi (P:=prog) (F:=λ(u:Nat×Nat×List AObj)=>⟨[(0,.yld l),(1,.iptr (Qk a)),(2,.iptr [.i s.1,.i s.2]),(3,.iptr (Qk b)),(5,.sl u.2.1 4 0 (Bf u.1).length),(6,.list ((Wo a s.1).map (W5 s.1))),(7,.list ((Wo b s.2).map (W5 s.2))),(9,.vptr x 0),(10,LP (Xj o)),(11,LP (Sz a s.1 o)),(28,.list ((Wo a s.1).map (W5 s.1))),(29,.i (Wo a s.1).length),(30,.i i),(41,.list ((Wo b s.2).map (W5 s.2))),(42,.i (Wo b s.2).length),(43,.i u.1)],u.2.2⟩)
   (λu=>u.1<=(Wo b s.2).length/\SL H0 u.2.2 u.2.1 184 4 ((Bf u.1).map Ev)/\u.2.2[x]?=some (.vars [.i (oS s.1 o),.i (D2 o),.list vo])) (λu=>(Wo b s.2).length - u.1) ?_ (0,q,Y) ⟨yW _,gy,yx⟩
  clear gy yx;clear Y q;rintro⟨k,q,Y⟩ ⟨hk,gy,yx⟩ ih2;simp only at hk gy yx ih2 |-;have x7:=yt k hk;repeat(refine s_ ?_;simp)
  refine Qa rfl (λze=>?_) (λzf=>?_)
  ·have z1:k<(Wo b s.2).length:=by simpa using ze
   have zr:=wz k (by omega);obtain⟨r,hr⟩:∃r,(Wo b s.2)[k]?=some r:=⟨_,zI z1⟩
   have ya:=zJ hr;obtain⟨j1,j2,j3,j4⟩:=z1u hb ya;have cSb:=q0c b s.2 k r hr (by have:=hb.mvs;omega);have hf:=zw r ya;have yu:=yr k r hr;have z6:=λq' G'=>ih2 (k+1,q',G');simp only[yu]at z6;have cL:=Ng a.types.toNat (by have:=ha.types;omega) (Xj o++Xj r) (Sz a s.1 o++Sz b s.2 r) (λp hp=>(zV.1 hp).elim (k1 p) (λh=>by rw[<-ht];exact j1 p h)) (λp hp=>(zV.1 hp).elim (k2 p) (λh=>by rw[<-ht];exact j2 p h)) (w0m a b s o r) hf;have yv:((a.types.toNat:Nat):Int)=a.types:=by have:=ha.types;omega
   rw[yv,c11]at cL;have zg:((Wo b s.2).map (W5 s.2))[k]?=some (.agg [.i (oS s.2 r),.i (D2 r),.list (oP r)]):=by rw[zU,hr,wG,y0x]
   have zo:∀hh,((Wo b s.2).map (W5 s.2))[k]'hh= .agg [.i (oS s.2 r),.i (D2 r),.list (oP r)]:=λhh=>(yH hh).2 zg;have cC1:=Xm [Xj o,Xj r] (by simp) (by rw[z0v,z_];omega);have cC2:=Xm [Sz a s.1 o,Sz b s.2 r] (by simp) (by rw[z0v,z_];omega);rw[z0v]at cC1 cC2;generalize oP r=vr at *;generalize Bc (w0m a b s o r)=Z at *;generalize Bf k=B at *
   repeat(refine s_ ?_;simp[zg,zo,z1])
   refine pcL (cSb) ?_;simp;repeat(refine s_ ?_;simp)
   generalize Xj o++Xj r=I2 at *;generalize Sz a s.1 o++Sz b s.2 r=O2 at *;generalize Xj o=Io at *;generalize Xj r=Ir at *;generalize Sz a s.1 o=Oo at *;generalize Sz b s.2 r=Or at *;refine Wh λW hW=>?_
   have wx:W[x]?=some (.vars [.i (oS s.1 o),.i (D2 o),.list vo]):=by rw[hW];exact Qb yx _
   have wr:W[Y.length]?=some (.vars [.i (oS s.2 r),.i (D2 r),.list vr]):=by rw[hW,zH (by simp)];simp
   have gw:SL H0 W q 184 4 (B.map Ev):=by rw[hW];exact gy.add _
   clear hW gy yx zg zo;generalize Y.length=y at *;clear Y
   have zh:∀(u z:AObj) (E:List AObj),(W++u::E).set W.length z=W++z::E:=λu z E=>by rw[v_ _ _ (by simp)];simp
   have zi:∀(u v z:AObj) (E:List AObj),(W++u::v::E).set (W.length+1) z=W++u::z::E:=λu v z E=>by rw[v_ _ _ (by simp)];simp
   have zj:∀(u v t z:AObj) (E:List AObj),(W++u::v::t::E).set (W.length+2) z=W++u::v::z::E:=λu v t z E=>by rw[v_ _ _ (by simp)];simp
   have zx:∀(u:AObj) (E:List AObj),(W++u::E)[W.length]?=some u:=λu E=>by rw[zH (by simp)];simp
   have zy:∀(u v:AObj) (E:List AObj),(W++u::v::E)[W.length+1]?=some v:=λu v E=>by rw[zH (by simp)];simp
   have zz:∀(u v t:AObj) (E:List AObj),(W++u::v::t::E)[W.length+2]?=some t:=λu v t E=>by rw[zH (by simp)];simp
   refine Qn (sl':=[(0,.yld l),(1,.iptr (Qk a)),(2,.iptr [.i s.1,.i s.2]),(3,.iptr (Qk b)),(5,.sl q 4 0 B.length),(6,.list ((Wo a s.1).map (W5 s.1))),(7,.list ((Wo b s.2).map (W5 s.2))),(9,.vptr x 0),(10,LP Io),(11,LP Oo),(13,.vptr y 0),(14,LP Ir),(15,LP Or),(28,.list ((Wo a s.1).map (W5 s.1))),(29,.i (Wo a s.1).length),(30,.i i),(41,.list ((Wo b s.2).map (W5 s.2))),(42,.i (Wo b s.2).length),(43,.i k)]) ?_ (by simp);refine Ig (P:=prog) tOk mixed [15] (.val 0 (.val 1 (.val 2 (.val 3 (.val 6 (.val 7 (.three 4 (.three 5 (.two 8 (.two 9 (.two 10 (.val 11 (.val 12 (.val 13 (.one 14 (.one 15 (.val 16 (.done))))))) 14 (.one 10 (.val 11 (.val 12 (.val 13 (.one 15 (.val 16 (.done)))))))) 14 (.one 9 (.one 10 (.val 11 (.val 12 (.val 13 (.one 15 (.val 16 (.done))))))))) 14 (.one 8 (.one 9 (.one 10 (.val 11 (.val 12 (.val 13 (.one 15 (.val 16 (.done)))))))))) 8 (.two 5 (.two 9 (.two 10 (.val 11 (.val 12 (.val 13 (.one 14 (.one 15 (.val 16 (.done))))))) 14 (.one 10 (.val 11 (.val 12 (.val 13 (.one 15 (.val 16 (.done)))))))) 14 (.one 9 (.one 10 (.val 11 (.val 12 (.val 13 (.one 15 (.val 16 (.done))))))))) 14 (.one 5 (.one 9 (.one 10 (.val 11 (.val 12 (.val 13 (.one 15 (.val 16 (.done)))))))))) 14 (.two 5 (.one 8 (.one 9 (.one 10 (.val 11 (.val 12 (.val 13 (.one 15 (.val 16 (.done))))))))) 8 (.one 5 (.one 9 (.one 10 (.val 11 (.val 12 (.val 13 (.one 15 (.val 16 (.done))))))))))) 8 (.two 4 (.two 5 (.two 9 (.two 10 (.val 11 (.val 12 (.val 13 (.one 14 (.one 15 (.val 16 (.done))))))) 14 (.one 10 (.val 11 (.val 12 (.val 13 (.one 15 (.val 16 (.done)))))))) 14 (.one 9 (.one 10 (.val 11 (.val 12 (.val 13 (.one 15 (.val 16 (.done))))))))) 14 (.one 5 (.one 9 (.one 10 (.val 11 (.val 12 (.val 13 (.one 15 (.val 16 (.done)))))))))) 14 (.one 4 (.one 5 (.one 9 (.one 10 (.val 11 (.val 12 (.val 13 (.one 15 (.val 16 (.done))))))))))) 14 (.two 4 (.two 5 (.one 8 (.one 9 (.one 10 (.val 11 (.val 12 (.val 13 (.one 15 (.val 16 (.done))))))))) 8 (.one 5 (.one 9 (.one 10 (.val 11 (.val 12 (.val 13 (.one 15 (.val 16 (.done)))))))))) 8 (.one 4 (.one 5 (.one 9 (.one 10 (.val 11 (.val 12 (.val 13 (.one 15 (.val 16 (.done)))))))))))))))))) (λS'=>∃(c:Nat) (E:List AObj),S'.hp=W++E/\(W++E)[c]?=some (.vars [.i (Z.getD ⟨0,0⟩).ty,.i (Z.getD ⟨0,0⟩).num])/\look S'.sl 16=some (.vptr c 0)/\look S'.sl 17=some (.bool Z.isSome)/\look S'.sl 0=some (.yld l)/\look S'.sl 1=some (.iptr (Qk a))/\look S'.sl 2=some (.iptr [.i s.1,.i s.2])/\look S'.sl 3=some (.iptr (Qk b))/\look S'.sl 5=some (.sl q 4 0 B.length)/\look S'.sl 6=some (.list ((Wo a s.1).map (W5 s.1)))/\look S'.sl 7=some (.list ((Wo b s.2).map (W5 s.2)))/\look S'.sl 9=some (.vptr x 0)/\look S'.sl 10=some (LP Io)/\look S'.sl 11=some (LP Oo)/\look S'.sl 13=some (.vptr y 0)/\look S'.sl 28=some (.list ((Wo a s.1).map (W5 s.1)))/\look S'.sl 29=some (.i (Wo a s.1).length)/\look S'.sl 30=some (.i i)/\look S'.sl 41=some (.list ((Wo b s.2).map (W5 s.2)))/\look S'.sl 42=some (.i (Wo b s.2).length)/\look S'.sl 43=some (.i k)) rfl (by kernel_rfl) ?_ ?_
   ·have za:yR 2=[0,1]:=rfl;simp[wx,wr,za]
    repeat' (first
     |refine And.intro ?_ ?_
     |(refine pcL cL ?_;simp[wx,wr,za])
     |(refine Wg W.length (zx _ _) ?_;simp[zh,zi,zj];refine pcL cC1 ?_;simp[wx,wr,za])
     |(refine Wg (W.length+1) (zy _ _ _) ?_;simp[zh,zi,zj];refine pcL cC1 ?_;simp[wx,wr,za])
     |(refine Wg (W.length+2) (zz _ _ _ _) ?_;simp[zh,zi,zj];refine pcL cC1 ?_;simp[wx,wr,za])
     |(refine Wg W.length (zx _ _) ?_;simp[zh,zi,zj];refine pcL cC2 ?_;simp[wx,wr,za])
     |(refine Wg (W.length+1) (zy _ _ _) ?_;simp[zh,zi,zj];refine pcL cC2 ?_;simp[wx,wr,za])
     |(refine Wg (W.length+2) (zz _ _ _ _) ?_;simp[zh,zi,zj];refine pcL cC2 ?_;simp[wx,wr,za]))
   rintro⟨sl,E0⟩ ⟨c,E,rfl,hc,s16,s17,s0,s1,s2,s3,s5,s6,s7,s9,s10,s11,s13,s28,s29,s30,s41,s42,s43⟩;simp only at s16 s17 s0 s1 s2 s3 s5 s6 s7 s9 s10 s11 s13 s28 s29 s30 s41 s42 s43;simp;refine Qn (sl':=[(0,.yld l),(1,.iptr (Qk a)),(2,.iptr [.i s.1,.i s.2]),(3,.iptr (Qk b)),(5,.sl q 4 0 B.length),(6,.list ((Wo a s.1).map (W5 s.1))),(7,.list ((Wo b s.2).map (W5 s.2))),(9,.vptr x 0),(10,LP Io),(11,LP Oo),(13,.vptr y 0),(16,.vptr c 0),(17,.bool Z.isSome),(28,.list ((Wo a s.1).map (W5 s.1))),(29,.i (Wo a s.1).length),(30,.i i),(41,.list ((Wo b s.2).map (W5 s.2))),(42,.i (Wo b s.2).length),(43,.i k)]) ?_ (by simp[s16,s17,s0,s1,s2,s3,s5,s6,s7,s9,s10,s11,s13,s28,s29,s30,s41,s42,s43]);clear s16 s17 s0 s1 s2 s3 s5 s6 s7 s9 s10 s11 s13 s28 s29 s30 s41 s42 s43 zh zi zj zx zy zz;have zt:=Qb wx E;have yw:=Qb wr E;have zk:=gw.add E;clear wx wr gw;generalize W++E=X at *;clear W E
   have yb:(B.map Ev).length=B.length:=by simp
   cases Z with
   |none=>
    simp only[xB]at z6;repeat(refine s_ ?_;simp)
    refine Qa rfl (λh=>by simp at h) (λ_=>?_);repeat(refine s_ ?_;simp[zr])
    refine Qc (sl':=[(0,.yld l),(1,.iptr (Qk a)),(2,.iptr [.i s.1,.i s.2]),(3,.iptr (Qk b)),(5,.sl q 4 0 B.length),(6,.list ((Wo a s.1).map (W5 s.1))),(7,.list ((Wo b s.2).map (W5 s.2))),(9,.vptr x 0),(10,LP Io),(11,LP Oo),(28,.list ((Wo a s.1).map (W5 s.1))),(29,.i (Wo a s.1).length),(30,.i i),(41,.list ((Wo b s.2).map (W5 s.2))),(42,.i (Wo b s.2).length),(43,.i (k+1:Nat))]) ?_ (by simp);exact z6 q X ⟨by omega,zk,zt⟩ (by omega)
   |some z=>
    simp only[Option.getD_some]at hc;repeat(refine s_ ?_;simp)
    refine Qa rfl (λ_=>?_) (λh=>by simp at h);repeat(refine s_ ?_;simp[hc,zt,yw])
    refine apS d2i d2k ?_;simp[Qb zk.arr,Qg zk.arr,yb];refine⟨by simp[Wf,Qb zk.arr,Qg zk.arr,yb]<;>omega,?_⟩;repeat(refine s_ ?_;simp[zr])
    refine Qc (sl':=[(0,.yld l),(1,.iptr (Qk a)),(2,.iptr [.i s.1,.i s.2]),(3,.iptr (Qk b)),(5,.sl (X.length+1) 4 0 (B++[(z,(D2 o,D2 r))]).length),(6,.list ((Wo a s.1).map (W5 s.1))),(7,.list ((Wo b s.2).map (W5 s.2))),(9,.vptr x 0),(10,LP Io),(11,LP Oo),(28,.list ((Wo a s.1).map (W5 s.1))),(29,.i (Wo a s.1).length),(30,.i i),(41,.list ((Wo b s.2).map (W5 s.2))),(42,.i (Wo b s.2).length),(43,.i (k+1:Nat))]) ?_ (by simp);have yy:x≠q:=λe=>by have:=zk.arr;rw[<-e,zt]at this;simp at this
    refine z6 (X.length+1) _ ⟨by omega,?_,Qb (Qd (Ne.symm yy) zt _) _⟩ (by omega);have y0:=zk.put [AObj.arr 184 4 [Ev (z,(D2 o,D2 r))]] ((B++[(z,(D2 o,D2 r))]).map Ev) (n:=X.length+1) rfl;simpa[Ev]using y0
  have yz:k=(Wo b s.2).length:=by simp at zf;omega
  subst yz;repeat(refine s_ ?_;simp[hw])
  refine Qc (sl':=[(0,.yld l),(1,.iptr (Qk a)),(2,.iptr [.i s.1,.i s.2]),(3,.iptr (Qk b)),(5,.sl q 4 0 (Bf (Wo b s.2).length).length),(6,.list ((Wo a s.1).map (W5 s.1))),(7,.list ((Wo b s.2).map (W5 s.2))),(28,.list ((Wo a s.1).map (W5 s.1))),(29,.i (Wo a s.1).length),(30,.i (i+1:Nat))]) ?_ (by simp);exact zv q Y ⟨by omega,gy⟩ (by omega)
 have x0:i=(Wo a s.1).length:=by simp at yp;omega
 subst x0;rw[x1q]at g |-;have zp:(V7 a b s).length<=4198401:=by rw[<-x1q];have h1:=w04 a b s (Wo a s.1).length;have h2:=vY ym.1 yn.1;omega
 have yc:=λ(L:List Stp) (h1:L.Perm (V7 a b s)) (h2:L.Pairwise λx y=>q0u x y=true)=>q1e yi yj ht s h1 h2;generalize V7 a b s=A at *
 repeat(refine s_ ?_;simp)
 refine Q3 rfl rfl (y1m G q A g.arr (by omega)) rfl ?_;rintro _ _ ⟨rfl,A',hp,hs,rfl⟩;have y1:A'=It a b s:=yc A' hp (hs.imp λh=>by unfold q0u;rw[h];rfl);have zu:A'.length=A.length:=hp.length_eq;simp;have yd:=Qf g.arr;have y2:=g.ge;refine Wi q (zL yd) ?_;have ye:(A'.map Ev).take A.length=A'.map Ev:=zT (by simp[zu]);simp[AV.fz,ye,zu];rw[y1];have x1:(It a b s).length<=4198401:=by rw[<-y1,zu];exact zp
 have yf:∀j,j<H0.length->(G.set q .dead)[j]? =H0[j]? :=λj hj=>by rw[zE (by omega)];exact g.keep j hj
 obtain⟨E,hE⟩:=c0j yf;have hinv:=z8 [] H0 E h0;rw[<-hE]at hinv;have zb:H0.length<=(G.set q .dead).length:=by rw[hE];simp
 have hL:∀j (h:j<(It a b s).length),∃post,It a b s=(It a b s).take j++(It a b s)[j]::post:=λj h=>⟨(It a b s).drop (j+1),by rw[<-wH h,xO]⟩
 clear hE yf;clear hp hs zu y1 ye zp yc g yd y2;generalize G.set q .dead=Y at *;clear G E A A';generalize It a b s=L at *;refine Qn (sl':=[(0,.yld l),(5,.list (L.map Ev))]) ?_ (by simp)
 repeat(refine s_ ?_;simp)
 refine Qj (Qc (sl':=[(0,.yld l),(83,.list (L.map Ev)),(84,.i L.length),(85,.i (0:Nat))]) ?_ (by simp));refine Qi (P:=prog) (F:=λ(u:Nat×List AObj)=>⟨[(0,.yld l),(83,.list (L.map Ev)),(84,.i L.length),(85,.i u.1)],u.2⟩)
  (λu=>u.1<=L.length/\Inv (L.take u.1) u.2/\H0.length<=u.2.length) (λu=>L.length - u.1) ?_ (0,Y) ⟨yW _,by simpa using hinv,zb⟩
 clear hinv zb;clear Y;rintro⟨j,G⟩ ⟨hj,gv,yg⟩ ih2;simp only at hj gv yg ih2 |-;repeat(refine s_ ?_;simp)
 refine Qa rfl (λze=>?_) (λzf=>?_)
 ·have z1:j<L.length:=by simpa using ze
  have zr:=wz j (by omega);obtain⟨post,zq⟩:=hL j z1;have x2:L.take (j+1)=L.take j++[L[j]]:=zR z1;have z6:=λG'=>ih2 (j+1,G');simp only[x2]at z6;have zl:(L.map Ev)[j]?=some (Ev L[j]):=by simp[z1]
  have zn:∀hh,(L.map Ev)[j]'hh=Ev L[j]:=λhh=>by simp
  generalize L[j]=e at *;generalize L.take j=pre at *;simp only[Ev]at zl zn
  repeat(refine s_ ?_;simp[zl,zn,z1])
  have yh:=z8 _ G [.vars [.i e.1.ty,.i e.1.num,.i e.2.1,.i e.2.2]] gv;have i1:=hI _ _ yh;have x3:=zc pre e post _ zq yh (by simp;omega);have x4:(G++[AObj.vars [.i e.1.ty,.i e.1.num,.i e.2.1,.i e.2.2]])[G.length]?=some (.vars [.i e.1.ty,.i e.1.num,.i e.2.1,.i e.2.2]):=by rw[zH (by simp)];simp
  generalize G++[AObj.vars [.i e.1.ty,.i e.1.num,.i e.2.1,.i e.2.2]]=Y at *;refine Ym rfl rfl (q:=l) rfl rfl i1 yk yl rfl (λjm K2=>(jm=none/\Inv (pre++[e]) (K2.set l (.lp true none z7 sl' ps asg body))/\∀i cs,H0.length<=i->Y[i]?=some (.vars cs)->(K2.set l (.lp true none z7 sl' ps asg body))[i]?=some (.vars cs))\/∃c,jm=some c/\Done c (K2.set l (.lp false (some c) z7 sl' ps asg body))) ?_ ?_
  ·exact x3
  rintro jm K2 (⟨rfl,hK,x5⟩|⟨c,rfl,hD⟩)
  ·simp;repeat(refine s_ ?_;simp)
   refine Qa rfl (λh=>by cases h) (λ_=>?_);repeat(refine s_ ?_;simp[zr])
   refine Qc (sl':=[(0,.yld l),(83,.list (L.map Ev)),(84,.i L.length),(85,.i (j+1:Nat))]) ?_ (by simp);exact z6 _ ⟨by omega,hK,by have:=Qf (x5 _ _ yg x4);omega⟩ (by omega)
  simp;repeat(refine s_ ?_;simp)
  refine Qa rfl (λ_=>?_) (λh=>by cases h);repeat(refine s_ ?_;simp)
  exact .inr ⟨c,hD⟩
 have x6:j=L.length:=by simp at zf;omega
 subst x6;rw[yB]at gv;repeat(refine s_ ?_;simp)
 exact .inl gv
end
end Go.Abs
namespace Go.Proofs
open Go.Shelf
def Tryz.sortPr_ren:Go.Shelf.Ren:=⟨λ|6=>130|15=>199|14=>198|28=>244|29=>245|20=>236|21=>237|22=>238|23=>239|24=>240|25=>241|26=>242|27=>243|46=>291|47=>292|48=>293|49=>294|50=>295|57=>316|n=>n,λ|22=>41|24=>66|25=>188|3=>3|39=>189|0=>0|53=>255|55=>258|4=>4|46=>291|45=>290|50=>112|5=>5|9=>9|66=>327|70=>331|76=>349|77=>350|n=>n,λ|n=>n⟩
def Tryz.sortPr:Go.Proofs.SlLaysF0.n6 prog Tryz.sortPr_ren:={
 mixed:=by kernel_rfl
 f6:=⟨Tryz.f130.name,by decide,func130.trans (congrArg some (by kernel_rfl))⟩
 f14:=⟨Tryz.f198.name,by decide,func198.trans (congrArg some (by kernel_rfl))⟩
 f15:=func199.trans (congrArg some (by kernel_rfl))
 f20:=⟨Tryz.f236.name,by decide,func236.trans (congrArg some (by kernel_rfl))⟩
 f21:=⟨Tryz.f237.name,by decide,func237.trans (congrArg some (by kernel_rfl))⟩
 f22:=⟨Tryz.f238.name,by decide,func238.trans (congrArg some (by kernel_rfl))⟩
 f23:=⟨Tryz.f239.name,by decide,func239.trans (congrArg some (by kernel_rfl))⟩
 f24:=⟨Tryz.f240.name,by decide,func240.trans (congrArg some (by kernel_rfl))⟩
 f25:=⟨Tryz.f241.name,by decide,func241.trans (congrArg some (by kernel_rfl))⟩
 f26:=⟨Tryz.f242.name,by decide,func242.trans (congrArg some (by kernel_rfl))⟩
 f27:=⟨Tryz.f243.name,by decide,func243.trans (congrArg some (by kernel_rfl))⟩
 f28:=func244.trans (congrArg some (by kernel_rfl))
 f29:=func245.trans (congrArg some (by kernel_rfl))
 f46:=⟨Tryz.f291.name,by decide,func291.trans (congrArg some (by kernel_rfl))⟩
 f47:=func292.trans (congrArg some (by kernel_rfl))
 f48:=func293.trans (congrArg some (by kernel_rfl))
 f49:=⟨Tryz.f294.name,by decide,func294.trans (congrArg some (by kernel_rfl))⟩
 f50:=⟨Tryz.f295.name,by decide,func295.trans (congrArg some (by kernel_rfl))⟩
 f57:=⟨Tryz.f316.name,by decide,func316.trans (congrArg some (by kernel_rfl))⟩
 t0:=underlying0
 a0:=isAgg0
 z0:=sizeOf0
 v0:=zeroValue0
 t3:=underlying3
 a3:=isAgg3
 z3:=sizeOf3
 v3:=zeroValue3
 t4:=underlying4
 a4:=isAgg4
 z4:=sizeOf4
 v4:=zeroValue4
 t5:=underlying5
 a5:=isAgg5
 z5:=sizeOf5
 v5:=zeroValue5
 t9:=underlying9
 a9:=isAgg9
 z9:=sizeOf9
 v9:=zeroValue9
 t22:=underlying41
 a22:=isAgg41
 z22:=sizeOf41
 v22:=zeroValue41
 t25:=underlying188
 a25:=isAgg188
 z25:=sizeOf188
 v25:=zeroValue188
 t39:=underlying189
 a39:=isAgg189
 z39:=sizeOf189
 v39:=zeroValue189
 t45:=underlying290
 a45:=isAgg290
 z45:=sizeOf290
 v45:=zeroValue290
 t46:=underlying291
 a46:=isAgg291
 z46:=sizeOf291
 v46:=zeroValue291
 t50:=underlying112
 a50:=isAgg112
 z50:=sizeOf112
 v50:=zeroValue112
 t53:=underlying255
 a53:=isAgg255
 z53:=sizeOf255
 v53:=zeroValue255
 t55:=underlying258
 a55:=isAgg258
 z55:=sizeOf258
 v55:=zeroValue258
 t66:=underlying327
 a66:=isAgg327
 z66:=sizeOf327
 v66:=zeroValue327
 t70:=underlying331
 a70:=isAgg331
 z70:=sizeOf331
 v70:=zeroValue331
 t76:=underlying349
 a76:=isAgg349
 z76:=sizeOf349
 v76:=zeroValue349
 t77:=underlying350
 a77:=isAgg350
 z77:=sizeOf350
 v77:=zeroValue350 }
end Go.Proofs
namespace Go.Abs
open Go Go.Proofs Go.RowKit
section
open Go.Shelf Go.Lib Go.Sort
def Xr{w:World}{I:Nat->Prop}{v:Value}{k:IntKind}{n:Int}(h:PVR w I v (.int k n)):v= .int k n:=by cases h;rfl
def G8(x:Int×Int):List Value:=[.int .i64 x.1,.int .i64 x.2]
def f2h(x y:Int×Int):ltOf z0n x y=v2e x y:=y0f x y
def k2c{w:World}{I:Nat->Prop}{l:List (Int×Int)}{F:Array Value}(hR:RowW w I 2 (l.map pqr) F):flatK G8 2 l.toArray=F:=by
 have z1:F.size=l.length * 2:=by have:=hR.size;simpa using this
 refine ext_get! (by simp[z1]) λt ht=>?_;have z6:t<l.length * 2:=by simpa using ht
 rw[get_flatK _ _ _ _ (by simpa using z6)];have hi:t / 2<l.length:=by omega
 rw[getElem!_pos l.toArray _ (by simpa using hi)];have hx:(l.map pqr)[t / 2]?=some (pqr l[t / 2]):=by simp[hi]
 have c0:=Xr (hR.cell _ _ hx 0 _ rfl);have c1:=Xr (hR.cell _ _ hx 1 _ rfl);have e0:l.toArray[t / 2]'(by simpa using hi)=l[t / 2]:=by simp
 rw[e0];have hm:t % 2=0\/t % 2=1:=by omega
 rcases hm with h|h<;>rw[h]
 ·have e1:t / 2 * 2+0=t:=by omega
  rw[e1]at c0;rw[c0];rfl
 have e1:t / 2 * 2+1=t:=by omega
 rw[e1]at c1;rw[c1];rfl
def y1l(H:List AObj)(p:Nat)(l:List (Int×Int))(hp:H[p]?=some (.arr 66 2 (l.map pqr)))(hl:l.length<=100000000):
  FC prog 130 [.sl p 2 0 l.length,.fn (.func 131) [] []] H
   (λr H'=>r= .tup []/\∃l':List (Int×Int),l'.Perm l/\l'.Pairwise (λx y=>v2e y x=false)/\H'=H.set p (.arr 66 2 (l'.map pqr))):=by
 refine(q0z (xs:=l.map pqr) (Th func130 rfl rfl) (by simp) hp [.func (.func 131) #[] #[]] (λw I m vs a b=>K0 _ w I m _ vs a b) (λz8=>∃l':List (Int×Int),l'.Perm l/\l'.Pairwise (λx y=>v2e y x=false)/\z8=l'.map pqr) ?_ ?_).mono ?_
 ·intro w I b cap F hE hI zc hR hH hb hc;by_cases z6:l=[]
  ·subst z6;refine Calls.mono (AnyF.slices_SortFunc_none Tryz.sortPr (some ⟨b,0,none⟩) cap _ w) ?_;rintro e w' ⟨rfl,rfl⟩;refine⟨rfl,[],F,0,#[],⟨[],.refl _,.nil,rfl⟩,rfl,hR,?_⟩;rw[grow_empty];exact(putRow_self id w' b 0 F hH).symm
  have zd:0<l.length:=uE.2 z6;have eg:∀args w,(callFunc 131 args).run prog w= .ok (.enter 131 args) w:=enters_of func131 (by kernel_rfl) rfl;have ze:=k2c hR;have zf:HoldsK G8 2 w b 0 l.toArray:=by unfold HoldsK;rw[ze];exact hH
  have z7:CmpLays prog 131 #[] G8 2 z0n b 0 l.toArray.size w:=λq os dk hs x y=>by
   have hW:∀c,I c->(sortWorldK G8 2 w b 0 q dk os).heap[c]? =w.heap[c]? :=λc za=>by have zg:=hI c za;have zh:b≠c:=λe=>zc (e▸za);simp only[sortWorldK,grow,putRowK,putRow,mapBlock,Sort.ahead];rw[y_ (by simpa using zg),wU,if_neg zh]
   have zb:∀z:Int×Int,PVR w I (.agg (G8 z).toArray) (pqr z):=λz=>by
    refine .agg _ _ (by simp[G8]) λi v x' hv z1=>?_
    match i,hv,z1 with
    |0,hv,z1=>simp[G8]at hv z1;subst hv z1;exact .int _ _
    |1,hv,z1=>simp[G8]at hv z1;subst hv z1;exact .int _ _
    |k+2,hv,z1=>simp[G8]at hv
   refine(v1s x y).laid hE hI hW (by simp) λi v x' hv z1=>?_
   match i,hv,z1 with
   |0,hv,z1=>simp at hv z1;subst hv z1;exact zb x
   |1,hv,z1=>simp at hv z1;subst hv z1;exact zb y
  have:=AnyQ.slices_SortFunc Tryz.sortPr 2 isAgg66 sizeOf66 G8 (λ_=>rfl) (λx v hv=>by simp[G8]at hv;rcases hv with rfl|rfl<;>rfl) z0n c0u 131 #[] b 0 cap l.toArray w eg z7 zf hb (by simp;omega);rw[show(l.toArray).size=l.length by simp]at this;refine Calls.mono this ?_;rintro e w' ⟨rfl,d',n,os,h1,h2,rfl⟩;obtain⟨s1,_,s3⟩:=h1;have hs:d'.toList.length=l.length:=by simpa using s1
  refine⟨rfl,d'.toList.map pqr,flatK G8 2 d',n,os,⟨d'.toList,?_,?_,rfl⟩,by simp[hs],⟨by simp,λx hx=>?_,λi x hx j y hy=>?_⟩,rfl⟩
  ·rw[show d'.extract 0 l.length=d' by simp[<-hs],show l.toArray.extract 0 l.length=l.toArray by simp]at s3;simpa using s3
  ·refine yJ.2 λi j hi hj zi=>?_;have:=h2 i j (yW _) zi (by omega);rw[f2h,getElem!_pos d' i (by simpa using hi),getElem!_pos d' j (by simpa using hj)]at this;simpa using this
  ·obtain⟨z,_,rfl⟩:=zO.1 hx;rfl
  rw[zU]at hx;obtain⟨z,hz,rfl⟩:=zS.1 hx;obtain⟨hi,rfl⟩:=zB.1 hz;have hj:j<2:=(zB.1 hy).1;have zj:i<d'.size:=by simpa using hi
  rw[get_flatK _ _ _ _ (by omega)];rw[show(i * 2+j) / 2=i by omega,show(i * 2+j) % 2=j by omega];rw[getElem!_pos d' i zj]
  match j,hj,hy with
  |0,_,hy=>simp[pqr,AV.cells]at hy;subst hy;exact .int _ _
  |1,_,hy=>simp[pqr,AV.cells]at hy;subst hy;exact .int _ _
 ·rintro h;have z6:l=[]:=by
   cases l with
   |nil=>rfl
   |cons x r=>simp at h
  subst z6;exact⟨⟨[],.refl _,.nil,rfl⟩,λw=>AnyF.slices_SortFunc_none Tryz.sortPr none 0 _ w⟩
 rintro r H' ⟨rfl,z8,⟨l',h1,h2,rfl⟩,rfl⟩;exact⟨rfl,l',h1,h2,rfl⟩
end
section
open Go.Maps
structure ShI (a b:Aut) (L:List PQ) (V:List Vst) (q N i:Nat) (H:List AObj):Prop where
 ok:VOk V L
 di:DInv a b L
 h0:H[0]?=some (.vars (Qk a))
 h1:H[1]?=some (.vars (Qk b))
 h2:H[2]?=some (stQ (L.map (·.1)))
 h3:H[3]?=some (.vars [.mref 2])
 h5:H[5]?=some (.vars [.sl q 6 0 V.length])
 hq:H[q]?=some (.arr 176 6 (V.map Fl))
 hN:H[N]?=some (.vars [.i i])
 nl:5<N
def ShI.app{a b:Aut}{L:List PQ}{V:List Vst}{q N i:Nat}{H:List AObj}(h:ShI a b L V q N i H)(E:List AObj):ShI a b L V q N i (H++E):=
 ⟨h.ok,h.di,Qb h.h0 _,Qb h.h1 _,Qb h.h2 _,Qb h.h3 _,Qb h.h5 _,Qb h.hq _,Qb h.hN _,h.nl⟩
def ShI.setx{a b:Aut}{L:List PQ}{V:List Vst}{q N i:Nat}{H:List AObj}(h:ShI a b L V q N i H){j:Nat}(hj:5<j)(hq:j≠q)(hN:j≠N)(x:AObj):ShI a b L V q N i (H.set j x):=
 ⟨h.ok,h.di,Qd (by omega) h.h0 _,Qd (by omega) h.h1 _,Qd (by omega) h.h2 _,Qd (by omega) h.h3 _,Qd (by omega) h.h5 _,Qd hq h.hq _,Qd hN h.hN _,h.nl⟩
def ShI.cell{a b:Aut}{L:List PQ}{V:List Vst}{q N i:Nat}{H:List AObj}(h:ShI a b L V q N i H)(j:Nat):ShI a b L V q H.length j (H++[.vars [.i j]]):=
 ⟨h.ok,h.di,Qb h.h0 _,Qb h.h1 _,Qb h.h2 _,Qb h.h3 _,Qb h.h5 _,Qb h.hq _,by rw[zH (by simp)];simp,by have:=Qf h.hN;have:=h.nl;omega⟩
def ShI.qne{a b:Aut}{L:List PQ}{V:List Vst}{q N i:Nat}{H:List AObj}(h:ShI a b L V q N i H):q≠0/\q≠1/\q≠2/\q≠3/\q≠5/\q≠N:=by
 have hq:=h.hq;refine⟨λe=>?_,λe=>?_,λe=>?_,λe=>?_,λe=>?_,λe=>?_⟩
 ·rw[e,h.h0]at hq;simp at hq
 ·rw[e,h.h1]at hq;simp at hq
 ·rw[e,h.h2]at hq;simp[stQ]at hq
 ·rw[e,h.h3]at hq;simp at hq
 ·rw[e,h.h5]at hq;simp at hq
 rw[e,h.hN]at hq;simp at hq
def ShI.push {a b:Aut} {L:List PQ} {V:List Vst} {q N n:Nat} {H:List AObj} (h:ShI a b L V q N n H) {e:PQ} (hn:L[n]?=some e) {t:Int×Int} {x:Sy} (ht:inD a t.1/\inD b t.2) (z1:t∉L.map (·.1)) {Z:List AObj} {q':Nat} (hlen:H.length<=Z.length)
  (e2:Z[2]?=some (stQ (L.map (·.1)++[t]))) (e5:Z[5]?=some (.vars [.sl q' 6 0 (V.length+1)])) (eq:Z[q']?=some (.arr 176 6 (V.map Fl++[Fl ⟨t,n,x,false⟩]))) (ek:∀j,j≠2->j≠5->j≠q->j<H.length->Z[j]? =H[j]?):
  ShI a b (L++[(t,e.2++[x])]) (V++[⟨t,n,x,false⟩]) q' N n Z:=by
 obtain⟨n0,n1,n2,n3,n5,nN⟩:=h.qne;have z6:=h.nl;refine⟨h.ok.push hn t x,h.di.add ht z1,(ek 0 (by decide) (by decide) (Ne.symm n0) (Qf h.h0)).trans h.h0,(ek 1 (by decide) (by decide) (Ne.symm n1) (Qf h.h1)).trans h.h1,by rw[e2];simp,(ek 3 (by decide) (by decide) (Ne.symm n3) (Qf h.h3)).trans h.h3,by rw[e5];simp,by rw[eq];simp,(ek N (by omega) (by omega) (Ne.symm nN) (Qf h.hN)).trans h.hN,h.nl⟩
def x06{a b:Aut}(ha:OkA a)(hb:OkA b){s:Int×Int}(h:inD a s.1/\inD b s.2):okQ s:=by
 have h1:=ha.fin;have h2:=hb.fin;unfold okQ;obtain⟨h3|h3,h4|h4⟩:=h
 ·omega
 ·have:=h4.1;have:=h4.2;omega
 ·have:=h3.1;have:=h3.2;omega
 have:=h3.1;have:=h3.2;have:=h4.1;have:=h4.2;omega
def DInv.okQ{a b:Aut}(ha:OkA a)(hb:OkA b){L:List PQ}(h:DInv a b L):∀s∈L.map (·.1),okQ s:=λs hs=>by obtain⟨e,he,rfl⟩:=zO.1 hs;exact x06 ha hb (h.rng e he)
def J6(w:List Sy):∀(es:List (Sy×(Int×Int))) (L:List PQ),∃E,Ez L w es=L++E
 |[],L=>⟨[],by simp[Ez]⟩
 |e::es,L=>by
  obtain⟨E,hE⟩:=J6 w es (g04 L e.2 (w++[e.1]));have h:Ez L w (e::es)=Ez (g04 L e.2 (w++[e.1])) w es:=rfl;rw[h,hE];unfold g04;split
  ·exact⟨E,rfl⟩
  exact⟨_,by rw[xQ]⟩
def w0c(L:List PQ)(w:List Sy)(es:List (Sy×(Int×Int)))(e:Sy×(Int×Int)):Ez L w (es++[e])=g04 (Ez L w es) e.2 (w++[e.1]):=by unfold Ez;rw[wL];rfl
def w02(r:Option (List Sy)×List PQ):AV:=match r.1 with
 |some w=> .tup [LSy w,.bool true,LQp []]
 |none=> .tup [LSy [],.bool false,LQp (Y2 (r.2.map (·.1)))]
def y2c{x y:Int×Int}(h:v2e y x=false):pLe x y=true:=by unfold v2e at h;unfold pLe;rw[<-ut]at h;simp only[wV,zX,decide_eq_true_eq]at *;omega
def u11(a b:Aut)(wn:Bool->Bool->Bool):Lo a b wn=Xf (M7 wn a b) (It a b) ((a.fin.length+1) * (b.fin.length+1)+1) 0 [((0,0),[])]:=rfl
attribute [local irreducible] It Xf Ez z05 stQ Y2
def Ff(a b:Aut)(ha:Dta a)(hb:Dta b)(ht:b.types=a.types)(wn:Bool->Bool->Bool)(f:Nat)(zt:∀x y,PC prog f [.bool x,.bool y] (λr=>r= .bool (wn x y))):PC prog 67 [encA a,encA b,.fn (.func f) [] []] (λr=>r=w02 (Lo a b wn)):=by
 refine pcB func67 results67 ntmps67 ?_;simp only[Qe];simp only[encA];have y7:=ha.ok.fin;have y8:=hb.ok.fin;rw[u11];obtain⟨R,hR⟩:∃R,Xf (M7 wn a b) (It a b) ((a.fin.length+1) * (b.fin.length+1)+1) 0 [((0,0),[])]=R:=⟨_,rfl⟩
 rw[hR];obtain⟨M,hM⟩:∃M,M=(a.fin.length+1) * (b.fin.length+1):=⟨_,rfl⟩
 have yx:M<=66049:=by rw[hM];exact yL (vY (tR y7.2) (tR y8.2)) (by decide)
 rw[<-hM]at hR;have hlen:=λL (h:DInv a b L)=>h.len;rw[<-hM]at hlen;repeat(refine s_ ?_;simp)
 refine W7 rfl rfl rfl ?_;simp;refine u08 rfl rfl rfl rfl (s:=(0,0)) rfl rfl rfl (by unfold okQ;decide) ?_;simp;repeat(refine s_ ?_;simp)
 have zu:ShI a b [((0,0),[])] [⟨(0,0),0,⟨0,0⟩,true⟩] 4 6 0 [.vars (Qk a),.vars (Qk b),stQ [(0,0)],.vars [.mref 2],.arr 176 6 [.agg [.i 0,.i 0,.i 0,.i 0,.i 0,.bool true]],.vars [.sl 4 6 0 1],.vars [.i 0]]:=
  ⟨VOk.start,DInv.start ha.ok hb.ok,rfl,rfl,rfl,rfl,rfl,rfl,rfl,by decide⟩
 have zv:∀s,M7 wn a b s=wn (z05 a s.1) (z05 b s.2):=λ_=>rfl;have zw:=λs e h=>c09 ha hb ht (s:=s) (e:=e) h;refine Qj (Qc (sl':=[(2,.fn (.func f) [] []),(3,.vptr 0 0),(4,.vptr 1 0),(9,.vptr 3 0),(10,.vptr 5 0),(11,.vptr 6 0)]) ?_ (by simp));refine Qi (P:=prog) (F:=λ(u:Nat×Nat×Nat×List PQ×List Vst×List AObj)=>⟨[(2,.fn (.func f) [] []),(3,.vptr 0 0),(4,.vptr 1 0),(9,.vptr 3 0),(10,.vptr 5 0),(11,.vptr u.2.1 0)],u.2.2.2.2.2⟩)
  (λu=>u.1<=u.2.2.2.1.length/\ShI a b u.2.2.2.1 u.2.2.2.2.1 u.2.2.1 u.2.1 u.1 u.2.2.2.2.2/\Xf (M7 wn a b) (It a b) (M+1 - u.1) u.1 u.2.2.2.1=R) (λu=>M+1 - u.1) ?_ (0,6,4,_,_,_) ⟨by simp,zu,hR⟩
 clear hR zu;rintro⟨i,N,q,L,V,H⟩ ⟨hi,hS,hB⟩ ih;simp only at hi hS hB ih |-;have yy:=hlen L hS.di;have yz:=hS.ok.len;have x0:=hS.nl;have y9:=hS.qne;repeat(refine s_ ?_;simp[hS.hN,hS.h5])
 refine Qa rfl (λya=>?_) (λyb=>?_)
 ·have ze:i<V.length:=by simpa using ya
  have hw:=wz i (by omega);obtain⟨v,hv⟩:∃v,V[i]?=some v:=⟨_,zI ze⟩
  obtain⟨⟨s,w⟩,he⟩:∃e,L[i]?=some e:=⟨_,zI (by omega)⟩
  have zx:=hS.ok.key i v _ hv he;have zj:=hS.di.rng _ (zJ he);simp only at zx zj;have cW:=d1n V L hS.ok i _ he (by omega);rw[show M+1 - i=(M - i)+1 by omega,y1c he,zv]at hB;have zc:(V.map Fl)[i]?=some (Fl v):=by rw[zU,hv];rfl
  have zf:∀hh,(V.map Fl)[i]'hh=Fl v:=λhh=>(yH hh).2 zc;simp only[Fl,zx]at zc zf;have cFa:=q0b a s.1 zj.1;have cFb:=q0b b s.2 zj.2;have cWn:=zt (z05 a s.1) (z05 b s.2);have cLe:=M5 a b s;simp only[encA,pqr]at cFa cFb cLe;generalize wn (z05 a s.1) (z05 b s.2)=wv at *
  repeat(refine s_ ?_;simp[hS.hN,hS.h5,hS.hq,zc,zf,ze])
  have z8:=hS.app [.vars [.i s.1,.i s.2]];have zd:(H++[AObj.vars [.i s.1,.i s.2]])[H.length]?=some (.vars [.i s.1,.i s.2]):=by rw[zH (by simp)];simp
  have x1:=Qf hS.hN;clear hS;generalize H++[AObj.vars [.i s.1,.i s.2]]=Y at *;generalize H.length=x at *;clear H
  have y0:=z8.h0;have y1:=z8.h1;refine Ql tOk mixed [] (.val 0 (.val 1 (.val 2 (.val 3 (.val 5 (.val 6 (.val 7 (.one 4 (.one 8 (.one 9 (.done))))))))))) rfl (by kernel_rfl) ?_;simp[y0,y1,zd];refine pcL (cFa) ?_;simp[y0,y1,zd];refine pcL (cFb) ?_;simp[y0,y1,zd];refine pcL (cWn) ?_;simp[y0,y1,zd];refine Qa rfl (λhd=>?_) (λhd=>?_)
  ·rw[if_pos hd]at hB;subst hB;have y5:=z8.h5;have yN:=z8.hN;repeat(refine s_ ?_;simp[y5,yN])
   refine C8 q z8.hq 5 y5 (Ne.symm y9.2.2.2.2.1) rfl ?_;simp[AObj.fz,AV.fz];rw[zT (by simp)];refine pcL (cW) ?_;simp;repeat(refine s_ ?_;simp)
   rfl
  rw[if_neg (by rw[hd];simp)]at hB;repeat(refine s_ ?_;simp[y0,y1,zd])
  refine pcL (cLe) ?_;simp;refine Qn (sl':=[(2,.fn (.func f) [] []),(3,.vptr 0 0),(4,.vptr 1 0),(9,.vptr 3 0),(10,.vptr 5 0),(11,.vptr N 0),(12,.vptr x 0),(49,.fn (.func 190) [] [.iptr (Qk a),.iptr [.i s.1,.i s.2],.iptr (Qk b)])]) ?_ (by simp);have x3:=Qf z8.hN;have x4:=Qf z8.hq;have yc:=Qf zd;repeat(refine s_ ?_;simp)
  refine Ew rfl (Rf:=λ_ H'=>∃q' V',ShI a b (Ez L w (It a b s)) V' q' N i H'/\Y.length<=H'.length/\∃sl' ps' a' b',H'[Y.length]?=some (.lp true none 84 sl' ps' a' b')) ?_ ?_
  ·simp;refine Jt λH1 zi=>?_;have fS:ShI a b L V q N i H1:=by rw[zi];exact z8.app _
   have fl:H1.length=Y.length+1:=by rw[zi];simp
   have fq:=congrArg (λh:List AObj=>h[Y.length]?) zi;simp at fq;clear zi;refine FC.mono (Zp a b ha.ok hb.ok ht ha hb s Y.length (by rfl) (by rfl)
    (λpre K=>∃q' V',ShI a b (Ez L w pre) V' q' N i K/\K[Y.length]? =H1[Y.length]?) (λ_ _=>False) H1 (λpre K ⟨q',V',h1,h2⟩=>h2.trans fq)
    (λpre K E ⟨q',V',h1,h2⟩=>⟨q',V',h1.app E,by rw[<-h2,zF (Qf (h2.trans fq))]⟩) ?_ ⟨q,V,by rw[j0y];exact fS,rfl⟩) ?_
   ·rintro pre e post K heq ⟨q',V',zk,yd⟩ hlen1;simp[Tg];have h8:=yd.trans fq;have z1:Y.length≠q':=λe=>by have:=zk.hq;rw[<-e,h8]at this;simp at this
    have z6:Y.length≠N:=λe=>by have:=zk.hN;rw[<-e,h8]at this;simp at this
    have hd:=zk.setx (j:=Y.length) (by omega) z1 z6 .dead;have d6:=Qh h8 .dead;have dl:(K.set Y.length .dead).length=K.length:=by simp
    have zl:∀j,j≠Y.length->(K.set Y.length .dead)[j]? =K[j]? :=λj hj=>by rw[zE (Ne.symm hj)]
    generalize K.set Y.length .dead=Z at *
    have zm:=zw s e (by rw[heq];simp);obtain⟨E0,ye⟩:=J6 w pre L;have yf:(Ez L w pre)[i]?=some (s,w):=by rw[ye,zF (zB.1 he).1];exact he
    have zn:=w0c L w pre e;have zo:=hlen _ hd.di;have yg:=hd.ok.len;have zg:=hd.di.okQ ha.ok hb.ok;have za:=x06 ha.ok hb.ok zm;generalize Ez L w pre=L2 at *;rw[zn]
    obtain⟨⟨ty,num⟩,t⟩:=e;simp only[Ev];simp only at zm za;have zy:∀E,ShI a b L2 V' q' N i (Z++E):=λE=>hd.app E;have z3:=λE=>(zy E).h3;have z2:=λE=>(zy E).h2;repeat(refine s_ ?_;simp[z3])
    refine w0b rfl rfl rfl rfl (s:=t) rfl (z2 _) zg za ?_;simp;repeat(refine s_ ?_;simp)
    by_cases hm:t∈L2.map (·.1)
    ·have hA:g04 L2 t (w++[⟨ty,num⟩])=L2:=if_pos hm;rw[hA];refine Qa rfl (λh=>by rw[decide_eq_true hm]at h;cases h) (λ_=>?_);repeat(refine s_ ?_;simp)
     refine⟨Qb d6 _,rfl,⟨⟨q',V',(hd.app _).setx (by omega) z1 z6 _⟩,by rw[fq];exact Qh (Qb d6 _) _⟩,λj cs hj hc=>?_⟩;have zb:j≠Y.length:=by omega
     exact Qd (Ne.symm zb) (Qb ((zl j zb).trans hc) _) _
    have hA:g04 L2 t (w++[⟨ty,num⟩])=L2++[(t,w++[⟨ty,num⟩])]:=if_neg hm;rw[hA];refine Qa rfl (λ_=>?_) (λh=>by rw[decide_eq_false hm]at h;cases h);repeat(refine s_ ?_;simp[z3])
    refine Lz rfl rfl rfl rfl (s:=t) rfl rfl (z2 _) zg za hm ?_;simp;refine Wh λW hW=>?_;have x7:=Qf hd.h2;have yh:=Qf hd.h5;have yi:=Qf hd.hN;have yj:=Qf hd.hq;obtain⟨m0,m1,m2,m3,m5,mN⟩:=hd.qne;have w2:W[2]?=some (stQ (L2.map (·.1)++[t])):=by rw[hW,zL (by simp;omega)]
    have wt:W[Z.length]?=some (.vars [.i ty,.i num,.i t.1,.i t.2]):=by rw[hW,zE (by omega),zH (by simp)];simp
    have wk:∀j,j≠2->j<Z.length->W[j]? =Z[j]? :=λj h1 h2=>by rw[hW,zE (Ne.symm h1),zF h2]
    have wl:W.length=Z.length+1:=by rw[hW];simp
    have w5:=(wk 5 (by decide) yh).trans hd.h5;have wN:=(wk N (by omega) yi).trans hd.hN;have wq:=(wk q' m2 yj).trans hd.hq;have w6:=(wk Y.length (by omega) (Qf d6)).trans d6;clear hW;have zz:(V'.map Fl).length=V'.length:=by simp
    repeat(refine s_ ?_;simp[w5,wt,wN])
    have w5s:∀E,(W.set q' .dead++E)[5]?=some (.vars [.sl q' 6 0 V'.length]):=λE=>Qb (Qd m5 w5 _) _;refine apS d2g d2j ?_;simp[Qb wq,Qg wq,zz,w5s];refine⟨by simp[Wf,Qb wq,Qg wq,zz,w5s]<;>omega,?_⟩;repeat(refine s_ ?_;simp)
    obtain⟨X,hX⟩:∃X,X=(W.set q' .dead++[AObj.arr 176 6 [.agg [.i t.1,.i t.2,.i i,.i ty,.i num,.bool false]],AObj.arr 176 6 (V'.map Fl++[.agg [.i t.1,.i t.2,.i i,.i ty,.i num,.bool false]])]).set 5 (.vars [.sl (W.length+1) 6 0 (V'.length+1)]):=⟨_,rfl⟩
    rw[<-hX];have x8:W.length+1<X.length:=by rw[hX];simp
    have yk:Z.length<=X.length:=by omega
    have x2:X[2]?=some (stQ (L2.map (·.1)++[t])):=by rw[hX];exact Qd (by decide) (Qb (Qd m2 w2 _) _) _
    have x5:X[5]?=some (.vars [.sl (W.length+1) 6 0 (V'.length+1)]):=by rw[hX];exact Qh (w5s _) _
    have xq:X[W.length+1]?=some (.arr 176 6 (V'.map Fl++[Fl ⟨t,i,⟨ty,num⟩,false⟩])):=by rw[hX,zE (by omega),zH (by simp)];simp[Fl]
    have xk:∀j,j≠2->j≠5->j≠q'->j<Z.length->X[j]? =Z[j]? :=λj h1 h2 h3 h4=>by rw[hX,zE (Ne.symm h2),zF (by simp;omega),zE (Ne.symm h3)];exact wk j h1 h4
    clear hX;have zh:=hd.push yf zm hm (x:=⟨ty,num⟩) yk x2 x5 xq xk;have x6:X[Y.length]?=some .dead:=(xk _ (by omega) (by omega) z1 (Qf d6)).trans d6;refine⟨x6,rfl,⟨⟨W.length+1,V'++[⟨t,i,⟨ty,num⟩,false⟩],zh.setx (by omega) (by have:=Qf d6;omega) z6 _⟩,by rw[fq];exact Qh x6 _⟩,λj cs hj hc=>?_⟩;have zb:j≠Y.length:=by omega
    have yl:j≠q':=λe=>by rw[e]at hc zb;rw[zl _ zb |>.symm,hd.hq]at hc;cases hc
    exact Qd (Ne.symm zb) ((xk j (by omega) (by omega) yl (by have:=Qf hc;omega)).trans ((zl j zb).trans hc)) _
   rintro _ H' (⟨q',V',h1,h2⟩|⟨c,h⟩)
   ·exact⟨⟨q',V',h1⟩,tf (Qf (h2.trans fq)),_,_,_,_,h2.trans fq⟩
   exact h.elim
  rintro res H' ⟨q',V',h1,h2,sl',ps',a',b',h3⟩;refine⟨true,none,84,sl',ps',a',b',by simpa using h3,?_⟩;simp;have z1:Y.length≠q':=λe=>by have:=h1.hq;rw[<-e,h3]at this;simp at this
  have z6:Y.length≠N:=λe=>by have:=h1.hN;rw[<-e,h3]at this;simp at this
  have zp:=h1.setx (j:=Y.length) (by omega) z1 z6 .dead;obtain⟨E,hE⟩:=J6 w (It a b s) L;have x9:i<(Ez L w (It a b s)).length:=by rw[hE,z_];omega
  clear h1 h3;generalize H'.set Y.length .dead=Z at *;generalize Ez L w (It a b s)=L2 at *
  have dN:=zp.hN;have zo:=hlen L2 zp.di;repeat(refine s_ ?_;simp[dN,hw])
  refine Qc (sl':=[(2,.fn (.func f) [] []),(3,.vptr 0 0),(4,.vptr 1 0),(9,.vptr 3 0),(10,.vptr 5 0),(11,.vptr Z.length 0)]) ?_ (by simp);exact ih (i+1,Z.length,q',L2,V',_) ⟨by simp only;omega,zp.cell (i+1),by rw[show M+1 - (i+1)=M - i by omega];exact hB⟩ (by simp only;omega)
 have ym:L.length<=i:=by simp at yb;omega
 rw[d00 (by rw[List.getElem?_eq_none_iff];omega)]at hB;subst hB;rw[show w02 (none,L)= .tup [.list [],.bool false,LQp (Y2 (L.map (·.1)))] from rfl];have yn:=hS.di.nd;have y2:=hS.ok.pairs;have yo:=hS.h5;have yp:=hS.hq;clear ih zw zv hlen zt;refine Qn (sl':=[(10,.vptr 5 0)]) ?_ (by simp);repeat(refine s_ ?_;simp[yo])
 refine Qz 14 66 2 rfl ?_;simp;have hst:=SL.start H 66 2;refine Qj (Qc (sl':=[(14,.sl H.length 2 0 (0:Nat)),(69,.sl q 6 0 V.length),(70,.i V.length),(71,.i (0:Nat))]) ?_ (by simp));refine Qi (P:=prog) (F:=λ(u:Nat×Nat×List AObj)=>⟨[(14,.sl u.2.1 2 0 u.1),(69,.sl q 6 0 V.length),(70,.i V.length),(71,.i u.1)],u.2.2⟩)
  (λu=>u.1<=V.length/\SL H u.2.2 u.2.1 66 2 (((V.take u.1).map (·.s)).map pqr)) (λu=>V.length - u.1) ?_ (0,H.length,_) ⟨yW _,by simpa using hst⟩
 rintro⟨j,p,G⟩ ⟨hj,g⟩ ih;simp only at hj g ih |-;repeat(refine s_ ?_;simp)
 refine Qa rfl (λzq=>?_) (λzr=>?_)
 ·have z7:j<V.length:=by simpa using zq
  have yq:=wz j (by omega);have y3:(V.take (j+1)).map (·.s)=(V.take j).map (·.s)++[V[j].s]:=by rw[zR z7,yU];rfl
  have yr:((V.take j).map (·.s)).length=j:=by simp;omega
  have y4:=λq' G'=>ih (j+1,q',G');simp only[y3]at y4;have zc:(V.map Fl)[j]?=some (Fl V[j]):=by simp[z7]
  have zf:∀hh,(V.map Fl)[j]'hh=Fl V[j]:=λhh=>by simp
  clear y3;generalize (V.take j).map (·.s)=acc at *
  generalize V[j]=v at *
  have gq:=g.kp yp;have y6:(acc.map pqr).length=j:=by simp[yr]
  simp only[Fl]at zc zf;repeat(refine s_ ?_;simp[gq,zc,zf,z7])
  refine apS T41 T66 ?_;simp[Qb g.arr,Qg g.arr,y6];refine⟨by simp[Wf,Qb g.arr,Qg g.arr,y6]<;>omega,?_⟩;repeat(refine s_ ?_;simp[yq])
  refine Qc (sl':=[(14,.sl (G.length+2) 2 0 (j+1)),(69,.sl q 6 0 V.length),(70,.i V.length),(71,.i (j+1:Nat))]) ?_ (by simp);have:=y4 (G.length+2) _ ⟨by omega,g.put [AObj.vars [.i v.s.1,.i v.s.2,.i v.fr,.i v.on.ty,.i v.on.num,.bool v.fst],AObj.arr 66 2 [pqr v.s]] ((acc++[v.s]).map pqr) rfl⟩ (by omega);simpa[pqr]using this
 have yt:j=V.length:=by simp at zr;omega
 subst yt;rw[yB,y2]at g;have yu:(L.map (·.1)).length=V.length:=by rw[<-y2];simp
 generalize L.map (·.1)=K at *
 rw[<-yu];repeat(refine s_ ?_;simp)
 refine Q3 rfl rfl (y1l G p K g.arr (by omega)) rfl ?_;rintro _ _ ⟨rfl,K',hp,hs,rfl⟩;have yv:K'=Y2 K:=j08 yn hp (hs.imp λh=>y2c h);have yw:∀z,(G.set p z)[p]?=some z:=λz=>Qh g.arr z;have xa:K'.length=K.length:=hp.length_eq;simp;repeat(refine s_ ?_;simp[yw])
 rw[if_pos (by omega),zT (by simp;omega),yv];rfl
end
section
open Go.Maps
def j17(x y:Bool):PC prog 70 [.bool x,.bool y] (λr=>r= .bool (neB x y)):=by
 refine pcB func70 results70 ntmps70 ?_;simp only[Qe];repeat(refine s_ ?_;simp)
 cases x<;>cases y<;>rfl
def f1o(x y:Bool):PC prog 68 [.bool x,.bool y] (λr=>r= .bool (neB x y)):=by
 refine pcB func68 results68 ntmps68 ?_;simp only[Qe];repeat(refine s_ ?_;simp)
 cases x<;>cases y<;>rfl
def d1h(x y:Bool):PC prog 87 [.bool x,.bool y] (λr=>r= .bool (v2l x y)):=by
 refine pcB func87 results87 ntmps87 ?_;simp only[Qe];repeat(refine s_ ?_;simp)
 cases x<;>cases y<;>rfl
def v1q(r:EqC×Int):AV:= .tup [Be r.1,.i r.2]
def d1q(r:(List Sy×Bool)×Int):AV:= .tup [LSy r.1.1,.bool r.1.2,.i r.2]
attribute [local irreducible] Tm Lo Y2 Yr E6 Ej
def Fo(a b:Aut):PC prog 22 [encA a,encA b] (λr=>r=v1q (Ld a b)):=by
 refine pcB func22 results22 ntmps22 ?_;simp only[Qe];obtain⟨R,hR⟩:∃R,Ld a b=R:=⟨_,rfl⟩
 rw[hR];unfold Ld at hR;have cF:=L9 a b;have z6:Tm a b=0->Dfa a/\Dfa b/\b.types=a.types:=λh=>Yl.1 h;have z7:Yr a b=(Lo a b neB).2.map (·.1):=by unfold Yr;rfl
 rw[z7]at hR;simp only[encA]at cF |-;repeat(refine s_ ?_;simp)
 refine pcL (cF) ?_;simp;repeat(refine s_ ?_;simp)
 refine Qa rfl (λh=>?_) (λh=>?_)
 ·have h':Tm a b≠0:=by simpa using h
  rw[if_pos h']at hR;subst hR;repeat(refine s_ ?_;simp)
  rfl
 have h':Tm a b=0:=by simpa using h
 rw[if_neg (λk=>k h')]at hR;obtain⟨ha,hb,ht⟩:=z6 h';have cS:=Ff a b ⟨ha.ok,ha.det⟩ ⟨hb.ok,hb.det⟩ ht neB 70 j17;obtain⟨⟨ow,L⟩,hS⟩:∃p,Lo a b neB=p:=⟨_,rfl⟩
 rw[hS]at hR cS;simp only[encA]at cS;cases ow with
 |some w=>
  simp only at hR;subst hR;repeat(refine s_ ?_;simp)
  refine pcL (cS) ?_;simp[w02];repeat(refine s_ ?_;simp)
  refine Qa rfl (λ_=>?_) (λh=>by simp at h);repeat(refine s_ ?_;simp)
  rfl
 |none=>
  simp only at hR;have z1:=u27 (L.map (·.1));have z8:((Y2 (L.map (·.1))).map pqr).length=(L.map (·.1)).length:=by rw[zY,z1]
  have cS2:PC prog 67 [.agg [.i a.types,.list (a.fin.map .bool),.list (a.mv.map encMv)],.agg [.i b.types,.list (b.fin.map .bool),.list (b.mv.map encMv)],.fn (.func 70) [] []] (λr=>r= .tup [.list [],.bool false,.list ((Y2 (L.map (·.1))).map pqr)]):=cS;generalize L.map (·.1)=K at *
  generalize Y2 K=K2 at *
  repeat(refine s_ ?_;simp)
  refine pcL (cS2) ?_;simp;repeat(refine s_ ?_;simp)
  refine Qa rfl (λh=>by simp at h) (λ_=>?_);repeat(refine s_ ?_;simp[z1])
  refine Qa rfl (λh=>?_) (λh=>?_)
  ·have h1:2048<K.length:=by simp at h;omega
   rw[if_pos h1]at hR;subst hR;repeat(refine s_ ?_;simp)
   rfl
  have h1:¬2048<K.length:=by simp at h;omega
  rw[if_neg h1]at hR;subst hR;repeat(refine s_ ?_;simp)
  rfl
def c1m(a b:Aut):Aut:=if E6 a b≠0 then Ix else(Ej a).2
def c1j(a b:Aut):Aut:=if E6 a b≠0 then Ix else if(Ej a).1≠0 then Ix else(Ej b).2
def w1t(a b:Aut):PC prog 66 [encA a,encA b] (λr=>r= .tup [encA (c1m a b),encA (c1j a b),.i (Uz a b)]):=by
 refine pcB func66 results66 ntmps66 ?_;simp only[Qe];have cB:=y0o a b;have cD:=U7 a;have cE:=U7 b;simp only[encA]at cB cD cE |-;obtain⟨X,hX⟩:∃X,c1m a b=X:=⟨_,rfl⟩
 obtain⟨Y,hY⟩:∃Y,c1j a b=Y:=⟨_,rfl⟩
 obtain⟨R,hR⟩:∃R,Uz a b=R:=⟨_,rfl⟩
 rw[hX,hY,hR];unfold c1m at hX;unfold c1j at hY;unfold Uz at hR;repeat(refine s_ ?_;simp)
 refine pcL (cB) ?_;simp;repeat(refine s_ ?_;simp)
 refine Qa rfl (λh=>?_) (λh=>?_)
 ·have h':E6 a b≠0:=by simpa using h
  rw[if_pos h']at hX hY hR;subst hX;subst hY;subst hR;repeat(refine s_ ?_;simp)
  refine Ql tOk mixed [3,4] (.val 0 (.val 2 (.two 1 (.one 3 (.one 4 (.val 5 (.done)))) 3 (.val 1 (.one 4 (.val 5 (.done))))))) rfl (by kernel_rfl) ?_;simp;repeat(refine s_ ?_;simp)
  exact⟨rfl,rfl,rfl⟩
 have h':¬E6 a b≠0:=by simpa using h
 rw[if_neg h']at hX hY hR;repeat(refine s_ ?_;simp)
 refine pcL (cD) ?_;simp;repeat(refine s_ ?_;simp)
 refine Qa rfl (λh2=>?_) (λh2=>?_)
 ·have z1:(Ej a).1≠0:=by simpa using h2
  rw[if_pos z1]at hY hR;subst hX;subst hY;subst hR;repeat(refine s_ ?_;simp)
  refine Ql tOk mixed [3,4] (.val 0 (.val 2 (.two 1 (.one 3 (.one 4 (.val 5 (.done)))) 3 (.val 1 (.one 4 (.val 5 (.done))))))) rfl (by kernel_rfl) ?_;simp;repeat(refine s_ ?_;simp)
  exact⟨rfl,rfl,rfl⟩
 rw[if_neg (by simpa using h2)]at hY hR;repeat(refine s_ ?_;simp)
 refine pcL (cE) ?_;simp;repeat(refine s_ ?_;simp)
 refine Ql tOk mixed [3,4] (.val 0 (.val 2 (.two 1 (.one 3 (.one 4 (.val 5 (.done)))) 3 (.val 1 (.one 4 (.val 5 (.done))))))) rfl (by kernel_rfl) ?_;simp;repeat(refine s_ ?_;simp)
 subst hX;subst hY;exact⟨⟨rfl,rfl,rfl⟩,⟨rfl,rfl,rfl⟩,hR⟩
def x01{a b:Aut}(h:Uz a b=0):Dta (Ej a).2/\Dta (Ej b).2/\(Ej b).2.types=(Ej a).2.types/\c1m a b=(Ej a).2/\c1j a b=(Ej b).2:=by
 have hb:E6 a b=0:=by
  by_cases k:E6 a b=0
  ·exact k
  unfold Uz at h;rw[if_pos k]at h;exact absurd h k
 obtain⟨h1,h2,h3⟩:=Uo.1 hb;obtain⟨d1,d2⟩:=(Ms hb).1 h;obtain⟨_,_,_,_,_,_,o1,o2,o3,_⟩:=I9 h1 (y0t d1);obtain⟨_,_,_,_,_,_,p1,p2,p3,_⟩:=I9 h2 (y0t d2);refine⟨⟨o1,o2⟩,⟨p1,p2⟩,by rw[p3,o3,h3],?_,?_⟩
 ·unfold c1m;rw[if_neg (by simpa using hb)]
 unfold c1j;rw[if_neg (by simpa using hb),if_neg (by simpa using d1)]
attribute [local irreducible] Uz c1m c1j
def Mf(a b:Aut):PC prog 32 [encA a,encA b] (λr=>r=d1q (c14 a b)):=by
 refine pcB func32 results32 ntmps32 ?_;simp only[Qe];obtain⟨R,hR⟩:∃R,c14 a b=R:=⟨_,rfl⟩
 rw[hR];unfold c14 at hR;have cD:=w1t a b;have z1:Uz a b=0->_:=λh=>x01 h;simp only[encA]at cD |-;repeat(refine s_ ?_;simp)
 refine pcL (cD) ?_;simp;repeat(refine s_ ?_;simp)
 refine Qa rfl (λh=>?_) (λh=>?_)
 ·have h':Uz a b≠0:=by simpa using h
  rw[if_pos h']at hR;subst hR;repeat(refine s_ ?_;simp)
  rfl
 have h':Uz a b=0:=by simpa using h
 rw[if_neg (λk=>k h')]at hR;obtain⟨ha,hb,ht,hx,hy⟩:=z1 h';have cS:=Ff (Ej a).2 (Ej b).2 ha hb ht v2l 87 d1h;rw[<-hx,<-hy]at cS hR;generalize c1m a b=X at *;generalize c1j a b=Y at *
 obtain⟨⟨ow,L⟩,hS⟩:∃p,Lo X Y v2l=p:=⟨_,rfl⟩
 rw[hS]at hR cS;simp only[encA]at cS;cases ow with
 |some w=>
  simp only at hR;subst hR;repeat(refine s_ ?_;simp)
  refine pcL (cS) ?_;simp[w02];repeat(refine s_ ?_;simp)
  rfl
 |none=>
  simp only at hR;subst hR;repeat(refine s_ ?_;simp)
  refine pcL (cS) ?_;simp[w02];repeat(refine s_ ?_;simp)
  rfl
def B2(a b:Aut):PC prog 21 [encA a,encA b] (λr=>r=d1q (c1u a b)):=by
 refine pcB func21 results21 ntmps21 ?_;simp only[Qe];obtain⟨R,hR⟩:∃R,c1u a b=R:=⟨_,rfl⟩
 rw[hR];unfold c1u at hR;have cD:=w1t a b;have z1:Uz a b=0->_:=λh=>x01 h;simp only[encA]at cD |-;repeat(refine s_ ?_;simp)
 refine pcL (cD) ?_;simp;repeat(refine s_ ?_;simp)
 refine Qa rfl (λh=>?_) (λh=>?_)
 ·have h':Uz a b≠0:=by simpa using h
  rw[if_pos h']at hR;subst hR;repeat(refine s_ ?_;simp)
  rfl
 have h':Uz a b=0:=by simpa using h
 rw[if_neg (λk=>k h')]at hR;obtain⟨ha,hb,ht,hx,hy⟩:=z1 h';have cS:=Ff (Ej a).2 (Ej b).2 ha hb ht neB 68 f1o;rw[<-hx,<-hy]at cS hR;generalize c1m a b=X at *;generalize c1j a b=Y at *
 obtain⟨⟨ow,L⟩,hS⟩:∃p,Lo X Y neB=p:=⟨_,rfl⟩
 rw[hS]at hR cS;simp only[encA]at cS;cases ow with
 |some w=>
  simp only at hR;subst hR;repeat(refine s_ ?_;simp)
  refine pcL (cS) ?_;simp[w02];repeat(refine s_ ?_;simp)
  rfl
 |none=>
  simp only at hR;subst hR;repeat(refine s_ ?_;simp)
  refine pcL (cS) ?_;simp[w02];repeat(refine s_ ?_;simp)
  rfl
end
section
open Go.Maps
def u0b(a b:Aut)(x:EqC):U9 a b x=if x.verdict≠1/\x.verdict≠2 then 1 else if(x.verdict=1/\0<x.word.length)\/(x.verdict=2/\0<x.pairs.length)then 3 else f1l a b x:=by
 unfold U9 f1l
 congr
def g1t{a b:Aut}{x:EqC}(h:f1l a b x=0):x.pairs.length<=2048/\x.word.length<=4096/\(∀s∈x.pairs,inS a s.1/\inS b s.2)/\Lm a.types x.word=0:=by
 unfold f1l at h;by_cases h1:2048<x.pairs.length\/4096<x.word.length
 ·rw[if_pos h1]at h;cases h
 rw[if_neg h1]at h;by_cases h2:x.pairs.all (λs=>decide (inS a s.1/\inS b s.2))=false
 ·rw[if_pos h2]at h;cases h
 rw[if_neg h2]at h;rw[Bool.not_eq_false,zW]at h2;exact⟨by omega,by omega,λs hs=>by simpa using h2 s hs,h⟩
attribute [local irreducible] Tm f1l Lr Rc
def q1m(w:List Sy):PC prog 83 [LSy w,LSy w] (λr=>r= .bool true):=by
 refine pcB func83 results83 ntmps83 ?_;simp only[Qe];refine Yb 0 rfl (λhlen=>?_);rw[zY]at hlen;repeat(refine s_ ?_;simp)
 refine Qa rfl (λh=>by simp at h) (λ_=>?_);repeat(refine s_ ?_;simp)
 refine Qs w.length (λ_=>True) (λj=>[(0,LSy w),(1,LSy w),(4,.bool false),(5,.i j)]) (λ_=>[]) rfl (by simp) (by simp) (by simp) (by simp) trivial ?_;intro j hj _ ih;repeat(refine s_ ?_;simp)
 refine Qa rfl (λza=>?_) (λzb=>?_)
 ·have z1:j<w.length:=by simpa using za
  have hw:=wz j (by omega);have z7:(w.map encSy)[j]?=some (encSy w[j]):=by simp[z1]
  have z8:∀hh,(w.map encSy)[j]'hh=encSy w[j]:=λhh=>by simp
  generalize w[j]=x at *;simp only[encSy]at z7 z8
  repeat(refine s_ ?_;simp)
  refine Ql tOk mixed [] (.val 0 (.val 1 (.val 2 (.val 3 (.val 4 (.val 5 (.val 6 (.val 7 (.val 8 (.done)))))))))) rfl (by kernel_rfl) ?_;simp[z7,z8,z1];refine Qa rfl (λh=>by simp at h) (λ_=>?_);repeat(refine s_ ?_;simp[hw])
  refine Qp _ (ih z1 trivial) rfl (by simp) ?_ (by simp) (by simp);simp
 have z6:j=w.length:=by simp at zb;omega
 subst z6;repeat(refine s_ ?_;simp)
def x07(x:EqC):PC prog 30 [Be x,Be x] (λr=>r= .bool true):=by
 refine pcB func30 results30 ntmps30 ?_;simp only[Qe];obtain⟨v,ps,w⟩:=x;simp only[Be];refine Wd 0 1 rfl rfl (λhlen=>?_);rw[zY]at hlen;repeat(refine s_ ?_;simp)
 refine pcL (q1m w) ?_;simp;repeat(refine s_ ?_;simp)
 refine Qa rfl (λh=>by simp at h) (λ_=>?_);repeat(refine s_ ?_;simp)
 refine Qs ps.length (λ_=>True) (λj=>[(2,.vptr 0 0),(3,.vptr 1 0),(4,.bool false),(5,.i j)]) (λ_=>[.vars [.i v,LQp ps,LSy w],.vars [.i v,LQp ps,LSy w]]) rfl (by simp) (by simp) (by simp) (by simp) trivial ?_;intro j hj _ ih;repeat(refine s_ ?_;simp)
 refine Qa rfl (λza=>?_) (λzb=>?_)
 ·have z1:j<ps.length:=by simpa using za
  have hw:=wz j (by omega);have z7:(ps.map pqr)[j]?=some (pqr ps[j]):=by simp[z1]
  have z8:∀hh,(ps.map pqr)[j]'hh=pqr ps[j]:=λhh=>by simp
  generalize ps[j]=x at *;simp only[pqr]at z7 z8
  repeat(refine s_ ?_;simp)
  refine Ql tOk mixed [] (.val 0 (.val 1 (.val 2 (.val 3 (.val 4 (.val 5 (.val 6 (.val 7 (.val 8 (.val 9 (.val 10 (.done)))))))))))) rfl (by kernel_rfl) ?_;simp[z7,z8,z1,v2p];refine Qa rfl (λh=>by simp at h) (λ_=>?_);repeat(refine s_ ?_;simp[hw])
  refine Qp _ (ih z1 trivial) rfl (by simp) ?_ (by simp) (by simp);simp
 have z6:j=ps.length:=by simp at zb;omega
 subst z6;repeat(refine s_ ?_;simp)
end
section
open Go.Maps
def Sg(a:Aut)(n:Int):PC prog 135 [encA a,.i n] (λr=>r= .bool (decide (inS a n))):=by
 refine pcB func135 results135 ntmps135 ?_;simp only[Qe];simp only[encA];refine Wd 0 1 rfl rfl (λhl=>?_);rw[zY]at hl;unfold inS;rcases k1h a.fin.length n with⟨c1,c2⟩|⟨c1,c2,c3⟩|⟨c1,c2,c3⟩
 ·have e1:decide (0<=n)=false:=by simpa using c1
  repeat(refine s_ ?_;simp[e1])
  exact decide_eq_false c2
 ·have e1:decide (0<=n)=true:=by simpa using c1
  have e2:decide (n<(a.fin.length:Int))=false:=by simpa using c2
  repeat(refine s_ ?_;simp[e1,e2])
  exact decide_eq_false c3
 have e1:decide (0<=n)=true:=by simpa using c1
 have e2:decide (n<(a.fin.length:Int))=true:=by simpa using c2
 repeat(refine s_ ?_;simp[e1,e2])
 exact decide_eq_true c3
def Gc(a b:Aut)(p q:Int):decide (inS a p/\inS b q)=(decide (inS a p) && decide (inS b q)):=by rw[xT,zX,decide_eq_true_eq,decide_eq_true_eq,decide_eq_true_eq]
attribute [local irreducible] Le Q9 V8 inS
def z1q(a b:Aut)(x:EqC)(hT:1<=a.types/\a.types<=16):PC prog 71 [encA a,encA b,Be x] (λr=>r= .i (U9 a b x)):=by
 refine pcB func71 results71 ntmps71 ?_;simp only[Qe];simp only[encA,Be];refine Wd 2 1 rfl rfl (λzk=>?_);refine Wd 2 2 rfl rfl (λzl=>?_);rw[zY]at zk zl;obtain⟨v,ps,w⟩:=x;simp only at zk zl |-;obtain⟨R,hR⟩:∃R,U9 a b ⟨v,ps,w⟩=R:=⟨_,rfl⟩
 rw[hR];rw[u0b]at hR;simp only at hR;by_cases hv:v≠1/\v≠2
 ·rw[if_pos hv]at hR;subst hR;have b1:(v != 1)=true:=by simpa using hv.1
  have b2:(v != 2)=true:=by simpa using hv.2
  repeat(refine s_ ?_;simp[b1,b2])
  refine Qa rfl (λ_=>?_) (λh=>by simp at h);repeat(refine s_ ?_;simp)
 rw[if_neg hv]at hR;by_cases hn:(v=1/\0<w.length)\/(v=2/\0<ps.length)
 ·rw[if_pos hn]at hR;subst hR;rcases hn with⟨rfl,h0⟩|⟨rfl,h0⟩
  ·repeat(refine s_ ?_;simp)
   refine Qa rfl (λh=>by simp at h) (λ_=>?_);repeat(refine s_ ?_;simp[h0])
   refine Qa rfl (λ_=>?_) (λh=>by first|(simp at h;done)|(simp at h;omega));repeat(refine s_ ?_;simp)
  repeat(refine s_ ?_;simp)
  refine Qa rfl (λh=>by simp at h) (λ_=>?_);repeat(refine s_ ?_;simp[h0])
  refine Qa rfl (λ_=>?_) (λh=>by first|(simp at h;done)|(simp at h;omega));repeat(refine s_ ?_;simp)
 rw[if_neg hn]at hR;have zm:v=1\/v=2:=by omega
 rcases zm with rfl|rfl
 ·have zn:¬0<w.length:=λh=>hn (.inl ⟨rfl,h⟩);have zo:decide (0<w.length)=false:=decide_eq_false zn;repeat(refine s_ ?_;simp)
  refine Qa rfl (λh=>by simp at h) (λ_=>?_);repeat(refine s_ ?_;simp[zo])
  refine Qa rfl (λh=>by first|(simp at h;done)|(simp at h;omega)) (λ_=>?_);repeat(refine s_ ?_;simp)
  unfold f1l at hR;simp only at hR;by_cases h1:2048<ps.length
  ·rw[if_pos (.inl h1)]at hR;subst hR;have d1:decide ((2048:Int)<ps.length)=true:=by simp;omega
   repeat(refine s_ ?_;simp[d1])
   refine Qa rfl (λ_=>?_) (λh=>by first|(simp at h;done)|(simp at h;omega));repeat(refine s_ ?_;simp)
  have d1:decide ((2048:Int)<ps.length)=false:=by simp;omega
  by_cases h2:4096<w.length
  ·rw[if_pos (.inr h2)]at hR;subst hR;repeat(refine s_ ?_;simp[d1])
   refine Qa rfl (λ_=>?_) (λh=>by first|(simp at h;done)|(simp at h;omega));repeat(refine s_ ?_;simp)
  rw[if_neg (by omega)]at hR;repeat(refine s_ ?_;simp[d1])
  refine Qa rfl (λh=>by first|(simp at h;done)|(simp at h;omega)) (λ_=>?_);repeat(refine s_ ?_;simp)
  refine Qn (sl':=[(3,.vptr 0 0),(4,.vptr 1 0),(5,.vptr 2 0),(7,.fn (.func 135) [] []),(58,LQp ps),(59,.i ps.length),(60,.i (0:Nat))]) ?_ (by simp);refine Qj ?_;refine Qi (P:=prog) (F:=λ(u:Nat×List AObj)=>⟨[(3,.vptr 0 0),(4,.vptr 1 0),(5,.vptr 2 0),(7,.fn (.func 135) [] []),(58,LQp ps),(59,.i ps.length),(60,.i u.1)],u.2⟩)
   (λu=>u.1<=ps.length/\(ps.take u.1).all (λs=>decide (inS a s.1/\inS b s.2))=true/\u.2[0]?=some (.vars (Qk a))/\u.2[1]?=some (.vars (Qk b))/\u.2[2]?=some (.vars [.i 1,LQp ps,LSy w])) (λu=>ps.length - u.1) ?_ (0,_) ⟨by simp,by simp,rfl,rfl,rfl⟩
  rintro⟨n,H⟩ ⟨hn,hI,g0,g1,g2⟩ ih;simp only at hn hI g0 g1 g2 ih |-;repeat(refine s_ ?_;simp)
  refine Qa rfl (λzg=>?_) (λzh=>?_)
  ·have z6:n<ps.length:=by simpa using zg
   have hw:=wz n (by omega);have za:(ps.map pqr)[n]?=some (pqr ps[n]):=by simp[z6]
   have zb:∀hh,(ps.map pqr)[n]'hh=pqr ps[n]:=λhh=>by simp
   have zc:=v0d z6 hI;have z8:=all_false (p:=λs:Int×Int=>decide (inS a s.1/\inS b s.2)) z6;generalize ps[n]=s at *
   obtain⟨p,q⟩:=s;simp only[pqr]at za zb;simp only[Gc]at zc z8;have k0:=Qb g0 [AObj.vars [.i p,.i q]];have k1:=Qb g1 [AObj.vars [.i p,.i q]];have k2:=Qb g2 [AObj.vars [.i p,.i q]];have kx:(H++[AObj.vars [.i p,.i q]])[H.length]?=some (.vars [.i p,.i q]):=by rw[zH (by simp)];simp
   have cA:=Sg a p;have cB:=Sg b q;simp only[encA]at cA cB;refine Uv ?_;simp;refine Eo ?_;refine Ti ?_;refine Eo (Ra tOk rfl ?_);simp[za,zb,z6];generalize H++[AObj.vars [AV.i p,AV.i q]]=H1 at *;clear g0 g1 g2;generalize H.length=X at *
   cases hA:decide (inS a p)
   ·rw[hA]at zc z8 cA;simp only[Gc]at hR;rw[if_pos (z8 rfl)]at hR;subst hR;repeat(refine s_ ?_;simp[k0,k1,kx])
    refine pcL (cA) ?_;simp[k0,k1,kx];refine Qx rfl rfl ?_;simp;repeat(refine s_ ?_;simp)
    refine Qa rfl (λ_=>?_) (λh=>by simp at h);repeat(refine s_ ?_;simp)
   rw[hA]at zc z8 cA;cases hB:decide (inS b q)
   ·rw[hB]at z8 cB;simp only[Gc]at hR;rw[if_pos (z8 rfl)]at hR;subst hR;repeat(refine s_ ?_;simp[k0,k1,kx])
    refine pcL (cA) ?_;simp[k0,k1,kx];refine pcL (cB) ?_;simp[k0,k1,kx];repeat(refine s_ ?_;simp)
    refine Qa rfl (λ_=>?_) (λh=>by simp at h);repeat(refine s_ ?_;simp)
   rw[hB]at zc cB;repeat(refine s_ ?_;simp[k0,k1,kx])
   refine pcL (cA) ?_;simp[k0,k1,kx];refine pcL (cB) ?_;simp[k0,k1,kx];repeat(refine s_ ?_;simp)
   refine Qa rfl (λh=>by simp at h) (λ_=>?_);repeat(refine s_ ?_;simp[hw])
   refine Qc (sl':=[(3,.vptr 0 0),(4,.vptr 1 0),(5,.vptr 2 0),(7,.fn (.func 135) [] []),(58,LQp ps),(59,.i ps.length),(60,.i (n+1:Nat))]) ?_ (by simp);exact ih (n+1,H1) ⟨by simp only;omega,by simp only[Gc];exact zc,k0,k1,k2⟩ (by simp only;omega)
  have zd:n=ps.length:=by simp at zh;omega
  subst zd;rw[yB]at hI;rw[hI,if_neg (by simp)]at hR;clear ih;refine Qn (sl':=[(3,.vptr 0 0),(4,.vptr 1 0),(5,.vptr 2 0)]) ?_ (by simp);repeat(refine s_ ?_;simp[g0])
  refine pcL (y09 a.types hT.1 hT.2) ?_;simp;have k2:=Qb g2 [AObj.vars [AV.list (uC encL (Q9 a.types.toNat))]];have kp:(H++[AObj.vars [AV.list (uC encL (Q9 a.types.toNat))]])[H.length]?=some (.vars [.list ((Q9 a.types.toNat).map encL)]):=by rw[zH (by simp)];simp
  generalize H++[AObj.vars [AV.list (uC encL (Q9 a.types.toNat))]]=H1 at *;clear g0 g1 g2;generalize H.length=X at *;clear H
  repeat(refine s_ ?_;simp[k2])
  refine Qn (sl':=[(10,.vptr X 0),(86,LSy w),(87,.i w.length),(88,.i (0:Nat))]) ?_ (by simp);refine Qj ?_;refine Qi (P:=prog) (F:=λ(u:Nat×List AObj)=>⟨[(10,.vptr X 0),(86,LSy w),(87,.i w.length),(88,.i u.1)],u.2⟩)
   (λu=>u.1<=w.length/\Lm a.types (w.drop u.1)=R/\u.2[X]?=some (.vars [.list ((Q9 a.types.toNat).map encL)])) (λu=>w.length - u.1) ?_ (0,_) ⟨by simp,by simpa using hR,kp⟩
  clear k2 kp hR;rintro⟨j,H⟩ ⟨hj,z7,kp⟩ ih;simp only at hj z7 kp ih |-;repeat(refine s_ ?_;simp)
  refine Qa rfl (λze=>?_) (λzf=>?_)
  ·have z1:j<w.length:=by simpa using ze
   have zi:=wz j (by omega);rw[Wx z1,Lm]at z7;have za:(w.map encSy)[j]?=some (encSy w[j]):=by simp[z1]
   have zb:∀hh,(w.map encSy)[j]'hh=encSy w[j]:=λhh=>by simp
   generalize w[j]=y at *
   have cC:=T0 (Q9 a.types.toNat) y;rw[D4 a.types hT]at cC;simp only[encSy,encP]at za zb cC;have kq:=Qb kp [AObj.vars [.i y.ty,.i y.num]];have ky:(H++[AObj.vars [.i y.ty,.i y.num]])[H.length]?=some (.vars [.i y.ty,.i y.num]):=by rw[zH (by simp)];simp
   refine Uv ?_;simp;refine Eo ?_;refine Ti ?_;refine Eo (Ra tOk rfl ?_);simp[za,zb,z1];generalize H++[AObj.vars [.i y.ty,.i y.num]]=H1 at *;clear kp;generalize H.length=Y at *
   repeat(refine s_ ?_;simp[kq,ky])
   refine pcL (cC) ?_;simp;repeat(refine s_ ?_;simp)
   refine Qa rfl (λh=>?_) (λh=>?_)
   ·rw[if_pos (by simpa using h)]at z7;subst z7;repeat(refine s_ ?_;simp)
   rw[if_neg (by simpa using h)]at z7;repeat(refine s_ ?_;simp[zi])
   refine Qc (sl':=[(10,.vptr X 0),(86,LSy w),(87,.i w.length),(88,.i (j+1:Nat))]) ?_ (by simp);exact ih (j+1,H1) ⟨by simp only;omega,z7,kq⟩ (by simp only;omega)
  have zj:j=w.length:=by simp at zf;omega
  subst zj;rw[xH]at z7;subst z7;repeat(refine s_ ?_;simp)
  rfl
 have zp:¬0<ps.length:=λh=>hn (.inr ⟨rfl,h⟩);have zq:decide (0<ps.length)=false:=decide_eq_false zp;repeat(refine s_ ?_;simp)
 refine Qa rfl (λh=>by simp at h) (λ_=>?_);repeat(refine s_ ?_;simp[zq])
 refine Qa rfl (λh=>by first|(simp at h;done)|(simp at h;omega)) (λ_=>?_);repeat(refine s_ ?_;simp)
 unfold f1l at hR;simp only at hR;by_cases h1:2048<ps.length
 ·rw[if_pos (.inl h1)]at hR;subst hR;have d1:decide ((2048:Int)<ps.length)=true:=by simp;omega
  repeat(refine s_ ?_;simp[d1])
  refine Qa rfl (λ_=>?_) (λh=>by first|(simp at h;done)|(simp at h;omega));repeat(refine s_ ?_;simp)
 have d1:decide ((2048:Int)<ps.length)=false:=by simp;omega
 by_cases h2:4096<w.length
 ·rw[if_pos (.inr h2)]at hR;subst hR;repeat(refine s_ ?_;simp[d1])
  refine Qa rfl (λ_=>?_) (λh=>by first|(simp at h;done)|(simp at h;omega));repeat(refine s_ ?_;simp)
 rw[if_neg (by omega)]at hR;repeat(refine s_ ?_;simp[d1])
 refine Qa rfl (λh=>by first|(simp at h;done)|(simp at h;omega)) (λ_=>?_);repeat(refine s_ ?_;simp)
 refine Qn (sl':=[(3,.vptr 0 0),(4,.vptr 1 0),(5,.vptr 2 0),(7,.fn (.func 135) [] []),(58,LQp ps),(59,.i ps.length),(60,.i (0:Nat))]) ?_ (by simp);refine Qj ?_;refine Qi (P:=prog) (F:=λ(u:Nat×List AObj)=>⟨[(3,.vptr 0 0),(4,.vptr 1 0),(5,.vptr 2 0),(7,.fn (.func 135) [] []),(58,LQp ps),(59,.i ps.length),(60,.i u.1)],u.2⟩)
  (λu=>u.1<=ps.length/\(ps.take u.1).all (λs=>decide (inS a s.1/\inS b s.2))=true/\u.2[0]?=some (.vars (Qk a))/\u.2[1]?=some (.vars (Qk b))/\u.2[2]?=some (.vars [.i 2,LQp ps,LSy w])) (λu=>ps.length - u.1) ?_ (0,_) ⟨by simp,by simp,rfl,rfl,rfl⟩
 rintro⟨n,H⟩ ⟨hn,hI,g0,g1,g2⟩ ih;simp only at hn hI g0 g1 g2 ih |-;repeat(refine s_ ?_;simp)
 refine Qa rfl (λzg=>?_) (λzh=>?_)
 ·have z6:n<ps.length:=by simpa using zg
  have hw:=wz n (by omega);have za:(ps.map pqr)[n]?=some (pqr ps[n]):=by simp[z6]
  have zb:∀hh,(ps.map pqr)[n]'hh=pqr ps[n]:=λhh=>by simp
  have zc:=v0d z6 hI;have z8:=all_false (p:=λs:Int×Int=>decide (inS a s.1/\inS b s.2)) z6;generalize ps[n]=s at *
  obtain⟨p,q⟩:=s;simp only[pqr]at za zb;simp only[Gc]at zc z8;have k0:=Qb g0 [AObj.vars [.i p,.i q]];have k1:=Qb g1 [AObj.vars [.i p,.i q]];have k2:=Qb g2 [AObj.vars [.i p,.i q]];have kx:(H++[AObj.vars [.i p,.i q]])[H.length]?=some (.vars [.i p,.i q]):=by rw[zH (by simp)];simp
  have cA:=Sg a p;have cB:=Sg b q;simp only[encA]at cA cB;refine Uv ?_;simp;refine Eo ?_;refine Ti ?_;refine Eo (Ra tOk rfl ?_);simp[za,zb,z6];generalize H++[AObj.vars [AV.i p,AV.i q]]=H1 at *;clear g0 g1 g2;generalize H.length=X at *
  cases hA:decide (inS a p)
  ·rw[hA]at zc z8 cA;simp only[Gc]at hR;rw[if_pos (z8 rfl)]at hR;subst hR;repeat(refine s_ ?_;simp[k0,k1,kx])
   refine pcL (cA) ?_;simp[k0,k1,kx];refine Qx rfl rfl ?_;simp;repeat(refine s_ ?_;simp)
   refine Qa rfl (λ_=>?_) (λh=>by simp at h);repeat(refine s_ ?_;simp)
  rw[hA]at zc z8 cA;cases hB:decide (inS b q)
  ·rw[hB]at z8 cB;simp only[Gc]at hR;rw[if_pos (z8 rfl)]at hR;subst hR;repeat(refine s_ ?_;simp[k0,k1,kx])
   refine pcL (cA) ?_;simp[k0,k1,kx];refine pcL (cB) ?_;simp[k0,k1,kx];repeat(refine s_ ?_;simp)
   refine Qa rfl (λ_=>?_) (λh=>by simp at h);repeat(refine s_ ?_;simp)
  rw[hB]at zc cB;repeat(refine s_ ?_;simp[k0,k1,kx])
  refine pcL (cA) ?_;simp[k0,k1,kx];refine pcL (cB) ?_;simp[k0,k1,kx];repeat(refine s_ ?_;simp)
  refine Qa rfl (λh=>by simp at h) (λ_=>?_);repeat(refine s_ ?_;simp[hw])
  refine Qc (sl':=[(3,.vptr 0 0),(4,.vptr 1 0),(5,.vptr 2 0),(7,.fn (.func 135) [] []),(58,LQp ps),(59,.i ps.length),(60,.i (n+1:Nat))]) ?_ (by simp);exact ih (n+1,H1) ⟨by simp only;omega,by simp only[Gc];exact zc,k0,k1,k2⟩ (by simp only;omega)
 have zd:n=ps.length:=by simp at zh;omega
 subst zd;rw[yB]at hI;rw[hI,if_neg (by simp)]at hR;clear ih;refine Qn (sl':=[(3,.vptr 0 0),(4,.vptr 1 0),(5,.vptr 2 0)]) ?_ (by simp);repeat(refine s_ ?_;simp[g0])
 refine pcL (y09 a.types hT.1 hT.2) ?_;simp;have k2:=Qb g2 [AObj.vars [AV.list (uC encL (Q9 a.types.toNat))]];have kp:(H++[AObj.vars [AV.list (uC encL (Q9 a.types.toNat))]])[H.length]?=some (.vars [.list ((Q9 a.types.toNat).map encL)]):=by rw[zH (by simp)];simp
 generalize H++[AObj.vars [AV.list (uC encL (Q9 a.types.toNat))]]=H1 at *;clear g0 g1 g2;generalize H.length=X at *;clear H
 repeat(refine s_ ?_;simp[k2])
 refine Qn (sl':=[(10,.vptr X 0),(86,LSy w),(87,.i w.length),(88,.i (0:Nat))]) ?_ (by simp);refine Qj ?_;refine Qi (P:=prog) (F:=λ(u:Nat×List AObj)=>⟨[(10,.vptr X 0),(86,LSy w),(87,.i w.length),(88,.i u.1)],u.2⟩)
  (λu=>u.1<=w.length/\Lm a.types (w.drop u.1)=R/\u.2[X]?=some (.vars [.list ((Q9 a.types.toNat).map encL)])) (λu=>w.length - u.1) ?_ (0,_) ⟨by simp,by simpa using hR,kp⟩
 clear k2 kp hR;rintro⟨j,H⟩ ⟨hj,z7,kp⟩ ih;simp only at hj z7 kp ih |-;repeat(refine s_ ?_;simp)
 refine Qa rfl (λze=>?_) (λzf=>?_)
 ·have z1:j<w.length:=by simpa using ze
  have zi:=wz j (by omega);rw[Wx z1,Lm]at z7;have za:(w.map encSy)[j]?=some (encSy w[j]):=by simp[z1]
  have zb:∀hh,(w.map encSy)[j]'hh=encSy w[j]:=λhh=>by simp
  generalize w[j]=y at *
  have cC:=T0 (Q9 a.types.toNat) y;rw[D4 a.types hT]at cC;simp only[encSy,encP]at za zb cC;have kq:=Qb kp [AObj.vars [.i y.ty,.i y.num]];have ky:(H++[AObj.vars [.i y.ty,.i y.num]])[H.length]?=some (.vars [.i y.ty,.i y.num]):=by rw[zH (by simp)];simp
  refine Uv ?_;simp;refine Eo ?_;refine Ti ?_;refine Eo (Ra tOk rfl ?_);simp[za,zb,z1];generalize H++[AObj.vars [.i y.ty,.i y.num]]=H1 at *;clear kp;generalize H.length=Y at *
  repeat(refine s_ ?_;simp[kq,ky])
  refine pcL (cC) ?_;simp;repeat(refine s_ ?_;simp)
  refine Qa rfl (λh=>?_) (λh=>?_)
  ·rw[if_pos (by simpa using h)]at z7;subst z7;repeat(refine s_ ?_;simp)
  rw[if_neg (by simpa using h)]at z7;repeat(refine s_ ?_;simp[zi])
  refine Qc (sl':=[(10,.vptr X 0),(86,LSy w),(87,.i w.length),(88,.i (j+1:Nat))]) ?_ (by simp);exact ih (j+1,H1) ⟨by simp only;omega,z7,kq⟩ (by simp only;omega)
 have zj:j=w.length:=by simp at zf;omega
 subst zj;rw[xH]at z7;subst z7;repeat(refine s_ ?_;simp)
 rfl
end
section
open Go.Maps
def knQ(l:List (Int×Int))(k:Nat):List (Int×Int):=(l.take k).foldl adQ []
def j1l(l:List (Int×Int)):knQ l 0=[]:=by unfold knQ;rfl
def f1m{l:List (Int×Int)}{k:Nat}(h:k<l.length):knQ l (k+1)=adQ (knQ l k) l[k]:=by unfold knQ;rw[zR h,wL];rfl
def c05{l:List (Int×Int)}{k:Nat}{s:Int×Int}:s∈knQ l k↔s∈l.take k:=by unfold knQ;have:=B4 (l.take k) [] (s:=s);rw[this];simp
def V6(es:List (Sy×(Int×Int)))(l:List (Int×Int)):Bool:=es.all λe=>decide (e.2∈l)
def d03{es:List (Sy×(Int×Int))}{l:List (Int×Int)}{e:Sy×(Int×Int)}(h1:V6 es l=true)(h2:e.2∈l):V6 (es++[e]) l=true:=by
 unfold V6 at *;rw[List.all_append,h1]
 simp[h2]
def j04{es:List (Sy×(Int×Int))}{l:List (Int×Int)}{e:Sy×(Int×Int)}(he:e∈es)(h:e.2∉l):V6 es l=false:=by unfold V6;rw[vT];exact⟨e,he,by simpa using h⟩
def w1g(a b:Aut){K l:List (Int×Int)}(h:∀s,s∈K↔s∈l):Gw a b K=Gw a b l:=by unfold Gw;rw[xT,zX,zX,zW,zW];simp only[h]
def y1g{a b:Aut}{l:List (Int×Int)}{s:Int×Int}(hs:s∈l)(h:q0p a b s=false\/V6 (It a b s) l=false):Gw a b l=false:=by
 unfold V6 at h;unfold Gw;have:(l.all λs=>q0p a b s && (It a b s).all λe=>decide (e.2∈l))=false:=by
  rw[vT];refine⟨s,hs,?_⟩;rcases h with h|h
  ·rw[h];simp
  rw[h];simp
 rw[this];rfl
def u03{a b:Aut}{l:List (Int×Int)}(h:∀s∈l,q0p a b s=true/\V6 (It a b s) l=true):Gw a b l=decide ((0,0)∈l):=by
 unfold V6 at h;unfold Gw;have:(l.all λs=>q0p a b s && (It a b s).all λe=>decide (e.2∈l))=true:=by rw[zW];intro s hs;rw[(h s hs).1,(h s hs).2];rfl
 rw[this];rfl
structure PvH (a b:Aut) (M:AObj) (H:List AObj):Prop where
 h0:H[0]?=some (.vars (Qk a))
 h1:H[1]?=some (.vars (Qk b))
 h2:H[2]?=some (.vars [.bool false])
 h3:H[3]?=some M
 h4:H[4]?=some (.vars [.mref 3])
def PvH.app{a b:Aut}{M:AObj}{H:List AObj}(h:PvH a b M H)(E:List AObj):PvH a b M (H++E):=
 ⟨Qb h.h0 _,Qb h.h1 _,Qb h.h2 _,Qb h.h3 _,Qb h.h4 _⟩
def PvH.setx{a b:Aut}{M:AObj}{H:List AObj}(h:PvH a b M H){j:Nat}(hj:4<j)(x:AObj):PvH a b M (H.set j x):=
 ⟨Qd (by omega) h.h0 _,Qd (by omega) h.h1 _,Qd (by omega) h.h2 _,Qd (by omega) h.h3 _,Qd (by omega) h.h4 _⟩
def PvH.set3{a b:Aut}{M:AObj}{H:List AObj}(h:PvH a b M H)(x:AObj):PvH a b x (H.set 3 x):=
 ⟨Qd (by omega) h.h0 _,Qd (by omega) h.h1 _,Qd (by omega) h.h2 _,Qh h.h3 _,Qd (by omega) h.h4 _⟩
def PvR(a b:Aut)(K:List (Int×Int))(s:Int×Int)(I X:Nat)(IT:AObj)(H':List AObj):Prop:=
 ∃pend sl' ps' a' b',H'[X]?=some (.lp (Option.isNone pend) pend 54 sl' ps' a' b')/\X<=H'.length/\
    ((pend=none/\PvH a b (.fm (kvQ K)) H'/\H'[I]?=some IT/\V6 (It a b s) K=true)\/(pend=some .ret/\V6 (It a b s) K=false/\H'[2]?=some (.vars [.bool false])))
def d1v{a b:Aut}(ha:OkA a)(hb:OkA b){s:Int×Int}(h:inS a s.1/\inS b s.2):okQ s:=x06 ha hb ⟨.inr h.1,.inr h.2⟩
attribute [local irreducible] Gw q0p It knQ V6 PvR
def j0x(a b:Aut)(ha:OkA a)(hb:OkA b)(ht:b.types=a.types)(zw:Dta a)(zy:Dta b)(ps:List (Int×Int))(hl:ps.length<=2048)(zk:∀s∈ps,inS a s.1/\inS b s.2):PC prog 72 [encA a,encA b,LQp ps] (λr=>r= .bool (Gw a b ps)):=by
 refine pcB func72 results72 ntmps72 ?_;simp only[Qe];simp only[encA];obtain⟨R,hR⟩:∃R,Gw a b ps=R:=⟨_,rfl⟩
 rw[hR];repeat(refine s_ ?_;simp)
 refine W7 rfl rfl rfl ?_;simp;repeat(refine s_ ?_;simp)
 refine Qn (sl':=[(3,.vptr 0 0),(4,.vptr 1 0),(6,.vptr 2 0),(7,.vptr 4 0),(13,LQp ps),(14,.i ps.length),(15,.i (0:Nat))]) ?_ (by simp);refine Qj ?_;refine Qi (P:=prog) (F:=λ(u:Nat×List AObj)=>⟨[(3,.vptr 0 0),(4,.vptr 1 0),(6,.vptr 2 0),(7,.vptr 4 0),(13,LQp ps),(14,.i ps.length),(15,.i u.1)],u.2⟩)
  (λu=>u.1<=ps.length/\PvH a b (stQ (knQ ps u.1)) u.2) (λu=>ps.length - u.1) ?_ (0,_) ⟨by simp,rfl,rfl,rfl,by rw[j1l];rfl,rfl⟩
 rintro⟨n,H⟩ ⟨hn,g⟩ ih;simp only at hn g ih |-;repeat(refine s_ ?_;simp)
 have zc:∀k,∀s∈knQ ps k,okQ s:=λk s hs=>d1v ha hb (zk s (List.mem_of_mem_take (c05.1 hs)));refine Qa rfl (λyb=>?_) (λyc=>?_)
 ·have za:n<ps.length:=by simpa using yb
  have hw:=wz n (by omega);have zz:(ps.map pqr)[n]?=some (pqr ps[n]):=by simp[za]
  have y0:∀hh,(ps.map pqr)[n]'hh=pqr ps[n]:=λhh=>by simp
  have yd:=f1m za;have ye:okQ ps[n]:=d1v ha hb (zk _ (zK za));generalize ps[n]=s at *
  obtain⟨p,q⟩:=s;simp only[pqr]at zz y0;have k:=g.app [AObj.vars [.i p,.i q]];have kx:(H++[AObj.vars [.i p,.i q]])[H.length]?=some (.vars [.i p,.i q]):=by rw[zH (by simp)];simp
  refine Uv ?_;simp;refine Eo ?_;refine Ti ?_;refine Eo (Ra tOk rfl ?_);simp[zz,y0,za];generalize H++[AObj.vars [.i p,.i q]]=H1 at *;clear g;generalize H.length=X at *
  have k4:=k.h4;repeat(refine s_ ?_;simp[k4,kx])
  refine w01 rfl rfl rfl rfl (s:=(p,q)) rfl rfl k.h3 (zc _) ye ?_;rw[<-yd];simp;repeat(refine s_ ?_;simp[hw])
  refine Qc (sl':=[(3,.vptr 0 0),(4,.vptr 1 0),(6,.vptr 2 0),(7,.vptr 4 0),(13,LQp ps),(14,.i ps.length),(15,.i (n+1:Nat))]) ?_ (by simp);exact ih (n+1,_) ⟨by simp only;omega,k.set3 _⟩ (by simp only;omega)
 have zo:n=ps.length:=by simp at yc;omega
 subst zo;have y1:=zc ps.length;have zp:∀s,s∈knQ ps ps.length↔s∈ps:=λs=>by rw[c05,yB]
 have yf:∀s∈knQ ps ps.length,inS a s.1/\inS b s.2:=λs hs=>zk s ((zp s).1 hs);rw[<-w1g a b zp]at hR;generalize knQ ps ps.length=K at *;clear ih zc zp zk;refine Qn (sl':=[(3,.vptr 0 0),(4,.vptr 1 0),(6,.vptr 2 0),(7,.vptr 4 0)]) ?_ (by simp)
 have g4:=g.h4;repeat(refine s_ ?_;simp[g4])
 refine q0n tOk rfl rfl rfl y2f rfl rfl g.h3 ?_;simp;repeat(refine s_ ?_;simp)
 refine Wh λE hE=>?_;have e:PvH a b (.fm (kvQ K)) E:=by rw[hE];exact(g.set3 _).app _
 have ei:E[H.length]?=some (.it (kvQ K) none):=by rw[hE,zH (by simp)];simp
 have yg:=Qf g4;clear hE g g4;generalize H.length=I at *;clear H;refine Qj (Qc (sl':=[(3,.vptr 0 0),(4,.vptr 1 0),(6,.vptr 2 0),(7,.vptr 4 0),(23,.vptr I 0)]) ?_ (by simp))
 refine Qi (P:=prog) (F:=λ(u:List (Int×Int)×Option (AV×AV)×List AObj)=>⟨[(3,.vptr 0 0),(4,.vptr 1 0),(6,.vptr 2 0),(7,.vptr 4 0),(23,.vptr I 0)],u.2.2⟩)
  (λu=>PvH a b (.fm (kvQ K)) u.2.2/\u.2.2[I]?=some (.it (kvQ u.1) u.2.1)/\(∀s∈u.1,s∈K)/\∀s∈K,s∉u.1->q0p a b s=true/\V6 (It a b s) K=true) (λu=>u.1.length) ?_ (K,none,E) ⟨e,ei,λs h=>h,λs h h2=>absurd h h2⟩
 clear e ei;clear E;rintro⟨left,cur,E⟩ ⟨e,ei,zb,z6⟩ ih;simp only at e ei zb z6 ih |-;repeat(refine s_ ?_;simp)
 refine P1 rfl rfl rfl rfl ei (λy2=>?_) (λi p hp=>?_)
 ·simp;have yh:left=[]:=by unfold kvQ at y2;simpa using y2
  subst yh;repeat(refine s_ ?_;simp)
  refine Qq rfl ?_;simp;have e4:=e.h4;rw[u03 λs hs=>z6 s hs (by simp)]at hR;repeat(refine s_ ?_;simp[e4])
  refine Gj rfl rfl rfl rfl (s:=(0,0)) rfl e.h3 y1 (by unfold okQ;decide) ?_;rw[hR];have e2:=e.h2;have zq:=Qh e2 (.vars [.bool R]);simp[e2];repeat(refine s_ ?_;simp[zq])
 simp;unfold kvQ at hp;rw[zU]at hp;obtain⟨s,hs,rfl⟩:=zS.1 hp;have yi:(kvQ left).eraseIdx i=kvQ (left.eraseIdx i):=Si ..;rw[yi];have y3:s∈K:=zb s (zJ hs);have ze:∀z∈left.eraseIdx i,z∈K:=λz hz=>zb z (List.mem_of_mem_eraseIdx hz);have ym:(left.eraseIdx i).length<left.length:=by rw[List.length_eraseIdx,if_pos (Yt hs)];have:=Yt hs;omega
 have z1:(q0p a b s=true/\V6 (It a b s) K=true)->∀z∈K,z∉left.eraseIdx i->q0p a b z=true/\V6 (It a b z) K=true:=λh z hz hn=>by
  by_cases hzl:z∈left
  ·rw[mem_erase hs hzl hn];exact h
  exact z6 z hz hzl
 clear z6 zb;have zl:=yf s y3;have z7:=λh=>y1g (a:=a) (b:=b) y3 h;generalize left.eraseIdx i=left' at *
 have ki:=Qh ei (.it (kvQ left') (some (pqr s,.bool true)));have k:=e.setx yg (.it (kvQ left') (some (pqr s,.bool true)));generalize E.set I (.it (kvQ left') (some (pqr s,.bool true)))=E1 at *;clear e ei;clear E
 obtain⟨s1,s2⟩:=s;unfold inS at zl;simp only at zl;obtain⟨sn,rfl⟩:∃k:Nat,s1=k:=⟨s1.toNat,by omega⟩
 obtain⟨tn,rfl⟩:∃k:Nat,s2=k:=⟨s2.toNat,by omega⟩
 have zm:sn<a.fin.length:=by have:=zl.1.2;omega
 have zn:tn<b.fin.length:=by have:=zl.2.2;omega
 have hq:q0p a b ((sn:Int),(tn:Int))=(a.fin[sn]==b.fin[tn]):=by unfold q0p;simp[zm,zn]
 have y4:(a.fin.map AV.bool)[sn]?=some (.bool a.fin[sn]):=by simp[zm]
 have zf:∀hh,(a.fin.map AV.bool)[sn]'hh= .bool a.fin[sn]:=λhh=>by simp
 have y5:(b.fin.map AV.bool)[tn]?=some (.bool b.fin[tn]):=by simp[zn]
 have zg:∀hh,(b.fin.map AV.bool)[tn]'hh= .bool b.fin[tn]:=λhh=>by simp
 generalize a.fin[sn]=fa at *;generalize b.fin[tn]=fb at *;simp only[pqr]at ki |-
 repeat(refine s_ ?_;simp)
 refine Qq rfl ?_;simp;refine Uv ?_;simp;refine Ti ?_;refine Eo (Ra tOk rfl ?_);simp;refine Oc rfl rfl rfl rfl ki ?_;simp;have yn:=Qf ki;have kx:(E1++[AObj.vars [.i sn,.i tn]])[E1.length]?=some (.vars [.i sn,.i tn]):=by rw[zH (by simp)];simp
 have kk:=k.app [AObj.vars [.i sn,.i tn]];have y6:=Qb ki [AObj.vars [.i sn,.i tn]];generalize zr:E1++[AObj.vars [.i sn,.i tn]]=E2 at *
 have yj:E2.length=E1.length+1:=by rw[<-zr];simp
 clear zr;clear k ki;generalize E1.length=X at *
 have k0:=kk.h0;have k1:=kk.h1;repeat(refine s_ ?_;simp)
 refine Ql tOk mixed [] (.val 0 (.val 1 (.val 2 (.val 3 (.val 4 (.val 5 (.val 6 (.val 7 (.val 8 (.val 9 (.val 10 (.val 11 (.val 12 (.done)))))))))))))) rfl (by kernel_rfl) ?_;simp[k0,k1,kx,y4,zf,y5,zg,zm,zn];refine Qa rfl (λh=>?_) (λh=>?_)
 ·have hf:(fa==fb)=false:=by simpa using h
  rw[hq,hf]at z7;rw[z7 (.inl rfl)]at hR;subst hR;have k2:=kk.h2;have zq:=Qh k2 (.vars [.bool false]);repeat(refine s_ ?_;simp[k2,zq])
 have hf:(fa==fb)=true:=by simpa using h
 rw[hq,hf]at z1 z7;have cLe:=M5 a b ((sn:Int),(tn:Int));simp only[encA,pqr]at cLe;have zt:∀e∈It a b ((sn:Int),(tn:Int)),okQ e.2:=λe he=>x06 ha hb (c09 zw zy ht he);repeat(refine s_ ?_;simp[k0,k1,kx])
 refine pcL (cLe) ?_;simp;refine Qn (sl':=[(3,.vptr 0 0),(4,.vptr 1 0),(6,.vptr 2 0),(7,.vptr 4 0),(23,.vptr I 0),(44,.fn (.func 190) [] [.iptr (Qk a),.iptr [.i sn,.i tn],.iptr (Qk b)])]) ?_ (by simp);have k2:=kk.h2;have zr:=Qf kk.h4;have yo:=Qf y6;repeat(refine s_ ?_;simp)
 clear k0 k1 kx y4 zf y5 zg zm zn cLe;have y7:([.i (sn:Int),.i (tn:Int)]:List AV)=[.i ((sn:Int),(tn:Int)).1,.i ((sn:Int),(tn:Int)).2]:=rfl;rw[y7];clear y7;generalize ((sn:Int),(tn:Int))=s at *;generalize hit:AObj.it (kvQ left') (some (AV.agg [AV.i ↑sn,AV.i ↑tn],AV.bool true))=IT at *;refine Ew rfl (Rf:=λ_ H'=>PvR a b K s I E2.length IT H') ?_ ?_
 ·simp;refine Jt λH1 zh=>?_;have fS:PvH a b (.fm (kvQ K)) H1:=by rw[zh];exact kk.app _
  have fi:H1[I]?=some IT:=by rw[zh];exact Qb y6 _
  have fl:H1.length=E2.length+1:=by rw[zh];simp
  have fq:=congrArg (λh:List AObj=>h[E2.length]?) zh;simp at fq;clear zh;refine FC.mono (Zp a b ha hb ht zw zy s E2.length (by rfl) (by rfl)
   (λpre J=>PvH a b (.fm (kvQ K)) J/\J[I]?=some IT/\V6 pre K=true/\J[E2.length]? =H1[E2.length]?)
   (λc J=>c= .ret/\V6 (It a b s) K=false/\J[2]?=some (.vars [.bool false])/\∃sl' ps' a' b',J[E2.length]?=some (.lp false (some .ret) 54 sl' ps' a' b')) H1 (λpre J h=>h.2.2.2.trans fq)
   (λpre J E h=>⟨h.1.app E,Qb h.2.1 _,h.2.2.1,by rw[<-h.2.2.2,zF (Qf (h.2.2.2.trans fq))]⟩) ?_ ⟨fS,fi,by unfold V6;rfl,rfl⟩) ?_
  ·rintro pre e post J heq ⟨g,gi,zu,yk⟩ hlen1;simp[Tg];have h8:=yk.trans fq;have hd:=g.setx (j:=E2.length) (by omega) .dead;have di:=Qd (j:=E2.length) (by omega) gi .dead;have d8:=Qh h8 .dead;have dl:(J.set E2.length .dead).length=J.length:=by simp
   have yl:∀j,j≠E2.length->(J.set E2.length .dead)[j]? =J[j]? :=λj hj=>by rw[zE (Ne.symm hj)]
   generalize J.set E2.length .dead=Z at *
   have zj:=zt e (by rw[heq];simp);obtain⟨⟨ty,num⟩,t⟩:=e;simp only[Ev];simp only at zj;have z:=hd.app [.vars [.i ty,.i num,.i t.1,.i t.2]];have zx:(Z++[AObj.vars [.i ty,.i num,.i t.1,.i t.2]])[Z.length]?=some (.vars [.i ty,.i num,.i t.1,.i t.2]):=by rw[zH (by simp)];simp
   have z4:=z.h4;have z2:=z.h2;refine Ra tOk rfl ?_;simp;generalize y8:Z++[AObj.vars [.i ty,.i num,.i t.1,.i t.2]]=Z2 at *
   have zv:∀j x,Z[j]?=some x->Z2[j]?=some x:=λj x h=>by rw[<-y8];exact Qb h _
   have z8:=zv _ _ d8;have zi:=zv _ _ di;clear y8;generalize Z.length=Y at *
   repeat(refine s_ ?_;simp[z4,zx])
   refine Gj rfl rfl rfl rfl (s:=t) rfl z.h3 y1 zj ?_;simp;repeat(refine s_ ?_;simp)
   by_cases hm:t∈K
   ·refine Qa rfl (λh=>by rw[decide_eq_true hm]at h;cases h) (λ_=>?_);repeat(refine s_ ?_;simp)
    refine⟨z8,.inl ⟨rfl,⟨z.setx (by omega) _,Qd (by omega) zi _,d03 zu hm,by rw[fq];exact Qh z8 _⟩,λj cs hj hc=>?_⟩⟩
    ·have y9:j≠E2.length:=by omega
     exact Qd (Ne.symm y9) (zv j _ ((yl j y9).trans hc)) _
   refine Qa rfl (λ_=>?_) (λh=>by rw[decide_eq_false hm]at h;cases h);have z22:=Qh z2 (.vars [.bool false]);repeat(refine s_ ?_;simp[z2,z22])
   have zd:=j04 (l:=K) (e:=(⟨ty,num⟩,t)) (es:=It a b s) (by rw[heq];simp) hm;refine⟨Qd (by omega) z8 _,.inr ⟨_,rfl,rfl,zd,Qd (by omega) z22 _,_,_,_,_,Qh (Qd (by omega) z8 _) _⟩⟩
  rintro _ H' (⟨h1,h2,h3,h4⟩|⟨c,rfl,h2,h3,sl',ps',a',b',h4⟩)
  ·unfold PvR;exact⟨none,_,_,_,_,h4.trans fq,tf (Qf (h4.trans fq)),.inl ⟨rfl,h1,h2,h3⟩⟩
  unfold PvR;exact⟨some .ret,sl',ps',a',b',h4,tf (Qf h4),.inr ⟨rfl,h2,h3⟩⟩
 intro res H' ya;unfold PvR at ya;obtain⟨pend,sl',ps',a',b',h3,h4,h5⟩:=ya;refine⟨pend.isNone,pend,54,sl',ps',a',b',by simpa using h3,?_⟩;rcases h5 with⟨rfl,h5,h6,h7⟩|⟨rfl,h5,h6⟩
 ·rw[h7]at z1;have k:=h5.setx (j:=E2.length) (by omega) .dead;have ki:=Qd (j:=E2.length) (by omega) h6 .dead;simp;repeat(refine s_ ?_;simp)
  refine Qc (sl':=[(3,.vptr 0 0),(4,.vptr 1 0),(6,.vptr 2 0),(7,.vptr 4 0),(23,.vptr I 0)]) ?_ (by simp);rw[<-hit]at ki;exact ih (left',some (AV.agg [AV.i ↑sn,AV.i ↑tn],AV.bool true),H'.set E2.length .dead) ⟨k,ki,ze,z1 ⟨rfl,rfl⟩⟩ (by simp only;omega)
 rw[h5]at z7;rw[z7 (.inr rfl)]at hR;subst hR;have k2:=Qd (j:=E2.length) (by omega) h6 .dead;simp;repeat(refine s_ ?_;simp[k2])
attribute [local irreducible] Tm U9 f1l Lr Rc
def R7(a b:Aut)(x:EqC):PC prog 23 [encA a,encA b,Be x] (λr=>r= .i (Kt a b x)):=by
 refine pcB func23 results23 ntmps23 ?_;simp only[Qe];obtain⟨v,ps,w⟩:=x;have cF:=L9 a b;have z7:Tm a b=0->Dfa a/\Dfa b/\b.types=a.types:=λh=>Yl.1 h;obtain⟨R,hR⟩:∃R,Kt a b ⟨v,ps,w⟩=R:=⟨_,rfl⟩
 rw[hR];unfold Kt at hR;simp only[encA,Be]at cF hR |-;repeat(refine s_ ?_;simp)
 refine pcL (cF) ?_;simp;repeat(refine s_ ?_;simp)
 refine Qa rfl (λh=>?_) (λh=>?_)
 ·have h':Tm a b≠0:=by simpa using h
  rw[if_pos h']at hR;subst hR;repeat(refine s_ ?_;simp)
 have h':Tm a b=0:=by simpa using h
 rw[if_neg (λk=>k h')]at hR;obtain⟨ha,hb,ht⟩:=z7 h';have cP:=z1q a b ⟨v,ps,w⟩ ha.ok.types;have cA:=D6 a w;have cB:=D6 b w;have cC:=λh1 h2=>j0x a b ha.ok hb.ok ht ⟨ha.ok,ha.det⟩ ⟨hb.ok,hb.det⟩ ps h1 h2;rw[y1a ⟨ha.ok,ha.det⟩ ⟨hb.ok,hb.det⟩ ht]at cC;simp only[encA,Be]at cP cA cB cC;repeat(refine s_ ?_;simp)
 refine pcL (cP) ?_;simp;repeat(refine s_ ?_;simp)
 refine Qa rfl (λh4=>?_) (λh4=>?_)
 ·have z1:U9 a b ⟨v,ps,w⟩≠0:=by simpa using h4
  rw[if_pos z1]at hR;subst hR;repeat(refine s_ ?_;simp)
 have z1:U9 a b ⟨v,ps,w⟩=0:=by simpa using h4
 rw[if_neg (λk=>k z1)]at hR;rw[u0b]at z1;have z8:v=1\/v=2:=by
  by_cases k:v≠1/\v≠2
  ·rw[if_pos k]at z1;cases z1
  omega
 rw[if_neg (by omega)]at z1;have za:f1l a b ⟨v,ps,w⟩=0:=by
  split at z1
  ·cases z1
  exact z1
 obtain⟨e1,e2,e3,e4⟩:=g1t za;simp only at e1 e2 e3 e4;have z6:∀(m:Aut),Dfa m->m.types=a.types->Ls m w=(Rc m w,0):=λm hm zb=>by
  have hE:q0s m w=0:=by unfold q0s;rw[(Y4 m).2 hm.ok,if_neg (by simp),if_neg (by omega),zb,e4]
  unfold Ls;rw[hE];rfl
 rw[z6 a ha rfl]at cA;rw[z6 b hb ht]at cB;rcases z8 with rfl|rfl
 ·repeat(refine s_ ?_;simp)
  refine Qa rfl (λ_=>?_) (λh=>by simp at h);repeat(refine s_ ?_;simp)
  refine pcL (cC e1 e3) ?_;simp;repeat(refine s_ ?_;simp)
  rw[if_pos rfl]at hR;refine Qa rfl (λh=>?_) (λh=>?_)
  ·rw[if_neg (by simpa using h)]at hR;subst hR;repeat(refine s_ ?_;simp)
  rw[if_pos (by simpa using h)]at hR;subst hR;repeat(refine s_ ?_;simp)
 repeat(refine s_ ?_;simp)
 refine Qa rfl (λh=>by simp at h) (λ_=>?_);repeat(refine s_ ?_;simp)
 refine pcL (cA) ?_;simp;repeat(refine s_ ?_;simp)
 refine pcL (cB) ?_;simp;repeat(refine s_ ?_;simp)
 refine Qa rfl (λh=>?_) (λh=>?_)
 ·have h':Rc a w=Rc b w:=by simpa using h
  simp[h']at hR;subst hR;repeat(refine s_ ?_;simp)
 have h':¬Rc a w=Rc b w:=by simpa using h
 simp[h']at hR;subst hR;repeat(refine s_ ?_;simp)
end
section
open Go.Maps
attribute [local irreducible] exQ exR Ld c1u c14 Kt
def Er:PC prog 28 [] (λr=>r= .bool true):=by
 refine pcB func28 results28 ntmps28 ?_;simp only[Qe];have z6:yR 1=[0]:=rfl;have z1:yR 2=[0,1]:=rfl;repeat(refine s_ ?_;simp)
 refine pcL (w0h) ?_;simp;repeat(refine s_ ?_;simp)
 refine pcL (Fo exQ exR) ?_;simp[q2b,v1q,Be];repeat(refine s_ ?_;simp)
 refine pcL (Fo exQ exQ) ?_;simp[q1p,v1q,Be];repeat(refine s_ ?_;simp[z6])
 refine Wg 4 rfl ?_;simp;refine pcL (B2 exQ exR) ?_;simp[k27,d1q];repeat(refine s_ ?_;simp)
 refine pcL (Mf exQ exR) ?_;simp[q20,d1q];have z7:IntKind.i64.wrap 0=0:=by decide
 have e1:Be ⟨2,[],[⟨0,5⟩]⟩= .agg [.i 2,.list [],.list [.agg [.i 0,.i 5]]]:=rfl;have e2:Be ⟨1,[(0,0),(1,1)],[]⟩= .agg [.i 1,.list [.agg [.i 0,.i 0],.agg [.i 1,.i 1]],.list []]:=rfl;refine Qn (sl':=[(0,.bool false),(1,.vptr 0 0),(2,.vptr 1 0),(3,.vptr 2 0),(4,.i 0),(5,.vptr 3 0),(6,.i 0),(7,.list [.agg [.i 0,.i 5]]),(8,.list [.agg [.i 0,.i 5]]),(9,.bool true),(10,.i 0),(11,.list [.agg [.i 0,.i (-1099511627776)],.agg [.i 0,.i 5]]),(12,.bool false),(13,.i 0)]) ?_ (by simp);repeat(refine s_ ?_;simp[z7])
 refine pcL (x07 ⟨2,[],[⟨0,5⟩]⟩) ?_;simp[e1,z1];refine Wg 5 rfl ?_;simp;refine pcL (x07 ⟨1,[(0,0),(1,1)],[]⟩) ?_;simp[e2,z1];refine pcL (Zq [⟨0,5⟩] [⟨0,5⟩]) ?_;simp[z1];refine Wg 6 rfl ?_;simp;refine pcL (Zq [⟨0,-1099511627776⟩,⟨0,5⟩] [⟨0,-1099511627776⟩,⟨0,5⟩]) ?_;simp;refine pcL (R7 exQ exR ⟨2,[],[⟨0,5⟩]⟩) ?_;simp[y2n];refine pcL (R7 exQ exQ ⟨1,[(0,0),(1,1)],[]⟩) ?_;simp[q2l];refine Wg 7 rfl ?_;simp;refine pcL (R7 exQ exQ ⟨1,[(0,0)],[]⟩) ?_;simp[z2p];repeat(refine s_ ?_;simp)
end
end Go.Abs
