/- Part Vk of the proof: steps on the way to the last part. No condition. -/
import Derived.Test.YtjmkolhkojgjpaaGreatDoorVj
import Derived.Test.YtjmkolhkojgjpaaGreatDoorVi
import Derived.Test.YtjmkolhkojgjpaaGreatDoorVf
import Derived.Test.YtjmkolhkojgjpaaGreatDoorVh
import Derived.Test.YtjmkolhkojgjpaaGreatDoorVe
import Derived.Test.YtjmkolhkojgjpaaGreatDoorVc
import Derived.Test.YtjmkolhkojgjpaaGreatDoorVg
import Derived.Shelf.SlGeneric
import Derived.Ground.SlsfProg
import Derived.Shelf.SlSortCmp.WholeK
import Derived.Test.YtjmkolhkojgjpaaGreatDoorProg
import Derived.Test.YtjmkolhkojgjpaaGreatDoorVd
set_option linter.all false
open List renaming take_succ_eq_append_getElem->zY,foldl_append->wJ,all_eq_false->ut,all_eq_true->yE,mem_of_mem_take->wd,getElem_mem->zT,getElem?_append_right->zO,take_length->yR,getElem?_map->z_,mem_of_getElem?->zL,length_eraseIdx->uj,getElem?_append_left->zI,getElem?_set_ne->zH,filter_congr->tR,length_map->yL,mem_map->zU,mem_append->yB,findIdx?_map->tS,getElem_eq_iff->yI,range->y_,mem_range->xD,take_of_length_le->zZ,getElem?_eq_some_iff->zE,pairwise_map->xS,pairwise_iff_getElem->yU,take_zero->wD,take_append_drop->xW,flatMap_append->wS,length_append->yP,map->uP,map_append->xA,getElem?_eq_getElem->zP,map_map->vV,nodup_append->vD,mem_singleton->zV,foldl_cons->xX,mem_cons->yO,ext_getElem?->xQ,getElem?_set_self->zS,getElem_inj->ua,getElem?_eq_none->xF,map_congr_left->xH,getElem?_mapIdx->vR,findIdx?_eq_none_iff->vY,mem_append_left->xB,append_assoc->xU,getD->yV,range_succ->vz,flatMap_def->tf,map_cons->xR,map_nil->wT,length_cons->xI,length_filter_le->xN,append_nil->xO,getElem?_zipIdx->tF,mem_iff_getElem?->yQ,mem_filter->xT,length_take->wC,any_eq_false->vI
open Bool renaming eq_iff_iff->wB,and_eq_true->yJ,not_eq_true->uI
open Option renaming map_eq_some_iff->zX
open Nat renaming le_of_lt->sG,le_refl->zW,le_trans->yW,zero_le->xP,lt_of_lt_of_le->xY
open Prod renaming ext->un
set_option maxHeartbeats 16000000
set_option linter.unusedSimpArgs false
set_option maxRecDepth 100000
open Go.Proofs.Tryz
namespace Go.Abs
section
open Go Go.Proofs Go.Maps Go.RowKit
def knQ(l:List (Int×Int))(k:Nat):List (Int×Int):=(l.take k).foldl adQ []
def v14(l:List (Int×Int)):knQ l 0=[]:=by unfold knQ;rfl
def g1p{l:List (Int×Int)}{k:Nat}(h:k<l.length):knQ l (k+1)=adQ (knQ l k) l[k]:=by unfold knQ;rw[zY h,wJ];rfl
def w1v{l:List (Int×Int)}{k:Nat}{s:Int×Int}:s∈knQ l k↔s∈l.take k:=by unfold knQ;have:=Br (l.take k) [] (s:=s);rw[this];simp
def Vx(es:List (Sy×(Int×Int)))(l:List (Int×Int)):Bool:=es.all λe=>decide (e.2∈l)
def f0r{es:List (Sy×(Int×Int))}{l:List (Int×Int)}{e:Sy×(Int×Int)}(h1:Vx es l=true)(h2:e.2∈l):Vx (es++[e]) l=true:=by
 unfold Vx at *;rw[List.all_append,h1]
 simp[h2]
def j0s{es:List (Sy×(Int×Int))}{l:List (Int×Int)}{e:Sy×(Int×Int)}(he:e∈es)(h:e.2∉l):Vx es l=false:=by unfold Vx;rw[ut];exact⟨e,he,by simpa using h⟩
def q1h(a b:Aut){K l:List (Int×Int)}(h:∀s,s∈K↔s∈l):F8 a b K=F8 a b l:=by unfold F8;rw[wB,yJ,yJ,yE,yE];simp only[h]
def f0v{a b:Aut}{l:List (Int×Int)}{s:Int×Int}(hs:s∈l)(h:w09 a b s=false\/Vx (Ic a b s) l=false):F8 a b l=false:=by
 unfold Vx at h;unfold F8;have:(l.all λs=>w09 a b s && (Ic a b s).all λe=>decide (e.2∈l))=false:=by
  rw[ut];refine⟨s,hs,?_⟩;rcases h with h|h
  ·rw[h];simp
  rw[h];simp
 rw[this];rfl
def u0k{a b:Aut}{l:List (Int×Int)}(h:∀s∈l,w09 a b s=true/\Vx (Ic a b s) l=true):F8 a b l=decide ((0,0)∈l):=by
 unfold Vx at h;unfold F8;have:(l.all λs=>w09 a b s && (Ic a b s).all λe=>decide (e.2∈l))=true:=by rw[yE];intro s hs;rw[(h s hs).1,(h s hs).2];rfl
 rw[this];rfl
structure PvH (a b:Aut) (M:AObj) (H:List AObj):Prop where
 h0:H[0]?=some (.vars (Ql a))
 h1:H[1]?=some (.vars (Ql b))
 h2:H[2]?=some (.vars [.bool false])
 h3:H[3]?=some M
 h4:H[4]?=some (.vars [.mref 3])
def PvH.app{a b:Aut}{M:AObj}{H:List AObj}(h:PvH a b M H)(E:List AObj):PvH a b M (H++E):=
 ⟨Qb h.h0 _,Qb h.h1 _,Qb h.h2 _,Qb h.h3 _,Qb h.h4 _⟩
def PvH.setx{a b:Aut}{M:AObj}{H:List AObj}(h:PvH a b M H){j:Nat}(hj:4<j)(x:AObj):PvH a b M (H.set j x):=
 ⟨Qd (by omega) h.h0 _,Qd (by omega) h.h1 _,Qd (by omega) h.h2 _,Qd (by omega) h.h3 _,Qd (by omega) h.h4 _⟩
def PvH.set3{a b:Aut}{M:AObj}{H:List AObj}(h:PvH a b M H)(x:AObj):PvH a b x (H.set 3 x):=
 ⟨Qd (by omega) h.h0 _,Qd (by omega) h.h1 _,Qd (by omega) h.h2 _,Qg h.h3 _,Qd (by omega) h.h4 _⟩
def PvR(a b:Aut)(K:List (Int×Int))(s:Int×Int)(I X:Nat)(IT:AObj)(H':List AObj):Prop:=
 ∃pend sl' ps' a' b',H'[X]?=some (.lp (Option.isNone pend) pend 54 sl' ps' a' b')/\X<=H'.length/\
    ((pend=none/\PvH a b (.fm (kvQ K)) H'/\H'[I]?=some IT/\Vx (Ic a b s) K=true)\/(pend=some .ret/\Vx (Ic a b s) K=false/\H'[2]?=some (.vars [.bool false])))
def q2d{a b:Aut}(ha:OkA a)(hb:OkA b){s:Int×Int}(h:inS a s.1/\inS b s.2):okQ s:=y07 ha hb ⟨.inr h.1,.inr h.2⟩
attribute [local irreducible] F8 w09 Ic knQ Vx PvR
def j0b(a b:Aut)(ha:OkA a)(hb:OkA b)(ht:b.types=a.types)(zw:Dta a)(zy:Dta b)(ps:List (Int×Int))(hl:ps.length<=2048)(zk:∀s∈ps,inS a s.1/\inS b s.2):PC prog 72 [encA a,encA b,LQp ps] (λr=>r= .bool (F8 a b ps)):=by
 refine pcB func72 results72 ntmps72 ?_;simp only[Qe];simp only[encA];obtain⟨R,hR⟩:∃R,F8 a b ps=R:=⟨_,rfl⟩
 rw[hR];repeat(refine s_ ?_;simp)
 refine W8 rfl rfl rfl ?_;simp;repeat(refine s_ ?_;simp)
 refine Qp (sl':=[(3,.vptr 0 0),(4,.vptr 1 0),(6,.vptr 2 0),(7,.vptr 4 0),(13,LQp ps),(14,.i ps.length),(15,.i (0:Nat))]) ?_ (by simp);refine Qi ?_;refine Qj (P:=prog) (F:=λ(u:Nat×List AObj)=>⟨[(3,.vptr 0 0),(4,.vptr 1 0),(6,.vptr 2 0),(7,.vptr 4 0),(13,LQp ps),(14,.i ps.length),(15,.i u.1)],u.2⟩)
  (λu=>u.1<=ps.length/\PvH a b (stQ (knQ ps u.1)) u.2) (λu=>ps.length - u.1) ?_ (0,_) ⟨by simp,rfl,rfl,rfl,by rw[v14];rfl,rfl⟩
 rintro⟨n,H⟩ ⟨hn,g⟩ ih;simp only at hn g ih |-;repeat(refine s_ ?_;simp)
 have zc:∀k,∀s∈knQ ps k,okQ s:=λk s hs=>q2d ha hb (zk s (wd (w1v.1 hs)));refine Qa rfl (λyb=>?_) (λyc=>?_)
 ·have za:n<ps.length:=by simpa using yb
  have hw:=wz n (by omega);have zz:(ps.map pqr)[n]?=some (pqr ps[n]):=by simp[za]
  have y0:∀hh,(ps.map pqr)[n]'hh=pqr ps[n]:=λhh=>by simp
  have yd:=g1p za;have ye:okQ ps[n]:=q2d ha hb (zk _ (zT za));generalize ps[n]=s at *
  obtain⟨p,q⟩:=s;simp only[pqr]at zz y0;have k:=g.app [AObj.vars [.i p,.i q]];have kx:(H++[AObj.vars [.i p,.i q]])[H.length]?=some (.vars [.i p,.i q]):=by rw[zO (by simp)];simp
  refine Uf ?_;simp;refine Rj ?_;refine Te ?_;refine Rj (Rp tOk rfl ?_);simp[zz,y0,za];generalize H++[AObj.vars [.i p,.i q]]=H1 at *;clear g;generalize H.length=X at *
  have k4:=k.h4;repeat(refine s_ ?_;simp[k4,kx])
  refine w0f rfl rfl rfl rfl (s:=(p,q)) rfl rfl k.h3 (zc _) ye ?_;rw[<-yd];simp;repeat(refine s_ ?_;simp[hw])
  refine Qc (sl':=[(3,.vptr 0 0),(4,.vptr 1 0),(6,.vptr 2 0),(7,.vptr 4 0),(13,LQp ps),(14,.i ps.length),(15,.i (n+1:Nat))]) ?_ (by simp);exact ih (n+1,_) ⟨by simp only;omega,k.set3 _⟩ (by simp only;omega)
 have zo:n=ps.length:=by simp at yc;omega
 subst zo;have y1:=zc ps.length;have zp:∀s,s∈knQ ps ps.length↔s∈ps:=λs=>by rw[w1v,yR]
 have yf:∀s∈knQ ps ps.length,inS a s.1/\inS b s.2:=λs hs=>zk s ((zp s).1 hs);rw[<-q1h a b zp]at hR;generalize knQ ps ps.length=K at *;clear ih zc zp zk;refine Qp (sl':=[(3,.vptr 0 0),(4,.vptr 1 0),(6,.vptr 2 0),(7,.vptr 4 0)]) ?_ (by simp)
 have g4:=g.h4;repeat(refine s_ ?_;simp[g4])
 refine By tOk rfl rfl rfl y2h rfl rfl g.h3 ?_;simp;repeat(refine s_ ?_;simp)
 refine Wb λE hE=>?_;have e:PvH a b (.fm (kvQ K)) E:=by rw[hE];exact(g.set3 _).app _
 have ei:E[H.length]?=some (.it (kvQ K) none):=by rw[hE,zO (by simp)];simp
 have yg:=Qf g4;clear hE g g4;generalize H.length=I at *;clear H;refine Qi (Qc (sl':=[(3,.vptr 0 0),(4,.vptr 1 0),(6,.vptr 2 0),(7,.vptr 4 0),(23,.vptr I 0)]) ?_ (by simp))
 refine Qj (P:=prog) (F:=λ(u:List (Int×Int)×Option (AV×AV)×List AObj)=>⟨[(3,.vptr 0 0),(4,.vptr 1 0),(6,.vptr 2 0),(7,.vptr 4 0),(23,.vptr I 0)],u.2.2⟩)
  (λu=>PvH a b (.fm (kvQ K)) u.2.2/\u.2.2[I]?=some (.it (kvQ u.1) u.2.1)/\(∀s∈u.1,s∈K)/\∀s∈K,s∉u.1->w09 a b s=true/\Vx (Ic a b s) K=true) (λu=>u.1.length) ?_ (K,none,E) ⟨e,ei,λs h=>h,λs h h2=>absurd h h2⟩
 clear e ei;clear E;rintro⟨left,cur,E⟩ ⟨e,ei,zb,z6⟩ ih;simp only at e ei zb z6 ih |-;repeat(refine s_ ?_;simp)
 refine Pj rfl rfl rfl rfl ei (λy2=>?_) (λi p hp=>?_)
 ·simp;have yh:left=[]:=by unfold kvQ at y2;simpa using y2
  subst yh;repeat(refine s_ ?_;simp)
  refine Qv rfl ?_;simp;have e4:=e.h4;rw[u0k λs hs=>z6 s hs (by simp)]at hR;repeat(refine s_ ?_;simp[e4])
  refine F1 rfl rfl rfl rfl (s:=(0,0)) rfl e.h3 y1 (by unfold okQ;decide) ?_;rw[hR];have e2:=e.h2;have zq:=Qg e2 (.vars [.bool R]);simp[e2];repeat(refine s_ ?_;simp[zq])
 simp;unfold kvQ at hp;rw[z_]at hp;obtain⟨s,hs,rfl⟩:=zX.1 hp;have yi:(kvQ left).eraseIdx i=kvQ (left.eraseIdx i):=Sf ..;rw[yi];have y3:s∈K:=zb s (zL hs);have ze:∀z∈left.eraseIdx i,z∈K:=λz hz=>zb z (List.mem_of_mem_eraseIdx hz);have ym:(left.eraseIdx i).length<left.length:=by rw[uj,if_pos (Yy hs)];have:=Yy hs;omega
 have z1:(w09 a b s=true/\Vx (Ic a b s) K=true)->∀z∈K,z∉left.eraseIdx i->w09 a b z=true/\Vx (Ic a b z) K=true:=λh z hz hn=>by
  by_cases hzl:z∈left
  ·rw[mem_erase hs hzl hn];exact h
  exact z6 z hz hzl
 clear z6 zb;have zl:=yf s y3;have z7:=λh=>f0v (a:=a) (b:=b) y3 h;generalize left.eraseIdx i=left' at *
 have ki:=Qg ei (.it (kvQ left') (some (pqr s,.bool true)));have k:=e.setx yg (.it (kvQ left') (some (pqr s,.bool true)));generalize E.set I (.it (kvQ left') (some (pqr s,.bool true)))=E1 at *;clear e ei;clear E
 obtain⟨s1,s2⟩:=s;unfold inS at zl;simp only at zl;obtain⟨sn,rfl⟩:∃k:Nat,s1=k:=⟨s1.toNat,by omega⟩
 obtain⟨tn,rfl⟩:∃k:Nat,s2=k:=⟨s2.toNat,by omega⟩
 have zm:sn<a.fin.length:=by have:=zl.1.2;omega
 have zn:tn<b.fin.length:=by have:=zl.2.2;omega
 have hq:w09 a b ((sn:Int),(tn:Int))=(a.fin[sn]==b.fin[tn]):=by unfold w09;simp[zm,zn]
 have y4:(a.fin.map AV.bool)[sn]?=some (.bool a.fin[sn]):=by simp[zm]
 have zf:∀hh,(a.fin.map AV.bool)[sn]'hh= .bool a.fin[sn]:=λhh=>by simp
 have y5:(b.fin.map AV.bool)[tn]?=some (.bool b.fin[tn]):=by simp[zn]
 have zg:∀hh,(b.fin.map AV.bool)[tn]'hh= .bool b.fin[tn]:=λhh=>by simp
 generalize a.fin[sn]=fa at *;generalize b.fin[tn]=fb at *;simp only[pqr]at ki |-
 repeat(refine s_ ?_;simp)
 refine Qv rfl ?_;simp;refine Uf ?_;simp;refine Te ?_;refine Rj (Rp tOk rfl ?_);simp;refine Iw rfl rfl rfl rfl ki ?_;simp;have yn:=Qf ki;have kx:(E1++[AObj.vars [.i sn,.i tn]])[E1.length]?=some (.vars [.i sn,.i tn]):=by rw[zO (by simp)];simp
 have kk:=k.app [AObj.vars [.i sn,.i tn]];have y6:=Qb ki [AObj.vars [.i sn,.i tn]];generalize zr:E1++[AObj.vars [.i sn,.i tn]]=E2 at *
 have yj:E2.length=E1.length+1:=by rw[<-zr];simp
 clear zr;clear k ki;generalize E1.length=X at *
 have k0:=kk.h0;have k1:=kk.h1;repeat(refine s_ ?_;simp)
 refine Qn tOk mixed [] (.val 0 (.val 1 (.val 2 (.val 3 (.val 4 (.val 5 (.val 6 (.val 7 (.val 8 (.val 9 (.val 10 (.val 11 (.val 12 (.done)))))))))))))) rfl (by kernel_rfl) ?_;simp[k0,k1,kx,y4,zf,y5,zg,zm,zn];refine Qa rfl (λh=>?_) (λh=>?_)
 ·have hf:(fa==fb)=false:=by simpa using h
  rw[hq,hf]at z7;rw[z7 (.inl rfl)]at hR;subst hR;have k2:=kk.h2;have zq:=Qg k2 (.vars [.bool false]);repeat(refine s_ ?_;simp[k2,zq])
 have hf:(fa==fb)=true:=by simpa using h
 rw[hq,hf]at z1 z7;have cLe:=Ng a b ((sn:Int),(tn:Int));simp only[encA,pqr]at cLe;have zt:∀e∈Ic a b ((sn:Int),(tn:Int)),okQ e.2:=λe he=>y07 ha hb (z1n zw zy ht he);repeat(refine s_ ?_;simp[k0,k1,kx])
 refine pcL (cLe) ?_;simp;refine Qp (sl':=[(3,.vptr 0 0),(4,.vptr 1 0),(6,.vptr 2 0),(7,.vptr 4 0),(23,.vptr I 0),(44,.fn (.func 190) [] [.iptr (Ql a),.iptr [.i sn,.i tn],.iptr (Ql b)])]) ?_ (by simp);have k2:=kk.h2;have zr:=Qf kk.h4;have yo:=Qf y6;repeat(refine s_ ?_;simp)
 clear k0 k1 kx y4 zf y5 zg zm zn cLe;have y7:([.i (sn:Int),.i (tn:Int)]:List AV)=[.i ((sn:Int),(tn:Int)).1,.i ((sn:Int),(tn:Int)).2]:=rfl;rw[y7];clear y7;generalize ((sn:Int),(tn:Int))=s at *;generalize hit:AObj.it (kvQ left') (some (AV.agg [AV.i ↑sn,AV.i ↑tn],AV.bool true))=IT at *;refine Ej rfl (Rf:=λ_ H'=>PvR a b K s I E2.length IT H') ?_ ?_
 ·simp;refine F3 λH1 zh=>?_;have fS:PvH a b (.fm (kvQ K)) H1:=by rw[zh];exact kk.app _
  have fi:H1[I]?=some IT:=by rw[zh];exact Qb y6 _
  have fl:H1.length=E2.length+1:=by rw[zh];simp
  have fq:=congrArg (λh:List AObj=>h[E2.length]?) zh;simp at fq;clear zh;refine FC.mono (K8 a b ha hb ht zw zy s E2.length (by rfl) (by rfl)
   (λpre J=>PvH a b (.fm (kvQ K)) J/\J[I]?=some IT/\Vx pre K=true/\J[E2.length]? =H1[E2.length]?)
   (λc J=>c= .ret/\Vx (Ic a b s) K=false/\J[2]?=some (.vars [.bool false])/\∃sl' ps' a' b',J[E2.length]?=some (.lp false (some .ret) 54 sl' ps' a' b')) H1 (λpre J h=>h.2.2.2.trans fq)
   (λpre J E h=>⟨h.1.app E,Qb h.2.1 _,h.2.2.1,by rw[<-h.2.2.2,zI (Qf (h.2.2.2.trans fq))]⟩) ?_ ⟨fS,fi,by unfold Vx;rfl,rfl⟩) ?_
  ·rintro pre e post J heq ⟨g,gi,zu,yk⟩ hlen1;simp[Rz];have h8:=yk.trans fq;have hd:=g.setx (j:=E2.length) (by omega) .dead;have di:=Qd (j:=E2.length) (by omega) gi .dead;have d8:=Qg h8 .dead;have dl:(J.set E2.length .dead).length=J.length:=by simp
   have yl:∀j,j≠E2.length->(J.set E2.length .dead)[j]? =J[j]? :=λj hj=>by rw[zH (Ne.symm hj)]
   generalize J.set E2.length .dead=Z at *
   have zj:=zt e (by rw[heq];simp);obtain⟨⟨ty,num⟩,t⟩:=e;simp only[Eo];simp only at zj;have z:=hd.app [.vars [.i ty,.i num,.i t.1,.i t.2]];have zx:(Z++[AObj.vars [.i ty,.i num,.i t.1,.i t.2]])[Z.length]?=some (.vars [.i ty,.i num,.i t.1,.i t.2]):=by rw[zO (by simp)];simp
   have z4:=z.h4;have z2:=z.h2;refine Rp tOk rfl ?_;simp;generalize y8:Z++[AObj.vars [.i ty,.i num,.i t.1,.i t.2]]=Z2 at *
   have zv:∀j x,Z[j]?=some x->Z2[j]?=some x:=λj x h=>by rw[<-y8];exact Qb h _
   have z8:=zv _ _ d8;have zi:=zv _ _ di;clear y8;generalize Z.length=Y at *
   repeat(refine s_ ?_;simp[z4,zx])
   refine F1 rfl rfl rfl rfl (s:=t) rfl z.h3 y1 zj ?_;simp;repeat(refine s_ ?_;simp)
   by_cases hm:t∈K
   ·refine Qa rfl (λh=>by rw[decide_eq_true hm]at h;cases h) (λ_=>?_);repeat(refine s_ ?_;simp)
    refine⟨z8,.inl ⟨rfl,⟨z.setx (by omega) _,Qd (by omega) zi _,f0r zu hm,by rw[fq];exact Qg z8 _⟩,λj cs hj hc=>?_⟩⟩
    ·have y9:j≠E2.length:=by omega
     exact Qd (Ne.symm y9) (zv j _ ((yl j y9).trans hc)) _
   refine Qa rfl (λ_=>?_) (λh=>by rw[decide_eq_false hm]at h;cases h);have z22:=Qg z2 (.vars [.bool false]);repeat(refine s_ ?_;simp[z2,z22])
   have zd:=j0s (l:=K) (e:=(⟨ty,num⟩,t)) (es:=Ic a b s) (by rw[heq];simp) hm;refine⟨Qd (by omega) z8 _,.inr ⟨_,rfl,rfl,zd,Qd (by omega) z22 _,_,_,_,_,Qg (Qd (by omega) z8 _) _⟩⟩
  rintro _ H' (⟨h1,h2,h3,h4⟩|⟨c,rfl,h2,h3,sl',ps',a',b',h4⟩)
  ·unfold PvR;exact⟨none,_,_,_,_,h4.trans fq,sG (Qf (h4.trans fq)),.inl ⟨rfl,h1,h2,h3⟩⟩
  unfold PvR;exact⟨some .ret,sl',ps',a',b',h4,sG (Qf h4),.inr ⟨rfl,h2,h3⟩⟩
 intro res H' ya;unfold PvR at ya;obtain⟨pend,sl',ps',a',b',h3,h4,h5⟩:=ya;refine⟨pend.isNone,pend,54,sl',ps',a',b',by simpa using h3,?_⟩;rcases h5 with⟨rfl,h5,h6,h7⟩|⟨rfl,h5,h6⟩
 ·rw[h7]at z1;have k:=h5.setx (j:=E2.length) (by omega) .dead;have ki:=Qd (j:=E2.length) (by omega) h6 .dead;simp;repeat(refine s_ ?_;simp)
  refine Qc (sl':=[(3,.vptr 0 0),(4,.vptr 1 0),(6,.vptr 2 0),(7,.vptr 4 0),(23,.vptr I 0)]) ?_ (by simp);rw[<-hit]at ki;exact ih (left',some (AV.agg [AV.i ↑sn,AV.i ↑tn],AV.bool true),H'.set E2.length .dead) ⟨k,ki,ze,z1 ⟨rfl,rfl⟩⟩ (by simp only;omega)
 rw[h5]at z7;rw[z7 (.inr rfl)]at hR;subst hR;have k2:=Qd (j:=E2.length) (by omega) h6 .dead;simp;repeat(refine s_ ?_;simp[k2])
attribute [local irreducible] Yg P0 k19 N8 Ro
def Zj(a b:Aut)(x:EqC):PC prog 23 [encA a,encA b,c1d x] (λr=>r= .i (q0m a b x)):=by
 refine pcB func23 results23 ntmps23 ?_;simp only[Qe];obtain⟨v,ps,w⟩:=x;have cF:=Lg a b;have z7:Yg a b=0->Dfa a/\Dfa b/\b.types=a.types:=λh=>Pc.1 h;obtain⟨R,hR⟩:∃R,q0m a b ⟨v,ps,w⟩=R:=⟨_,rfl⟩
 rw[hR];unfold q0m at hR;simp only[encA,c1d]at cF hR |-;repeat(refine s_ ?_;simp)
 refine pcL (cF) ?_;simp;repeat(refine s_ ?_;simp)
 refine Qa rfl (λh=>?_) (λh=>?_)
 ·have h':Yg a b≠0:=by simpa using h
  rw[if_pos h']at hR;subst hR;repeat(refine s_ ?_;simp)
 have h':Yg a b=0:=by simpa using h
 rw[if_neg (λk=>k h')]at hR;obtain⟨ha,hb,ht⟩:=z7 h';have cP:=d0f a b ⟨v,ps,w⟩ ha.ok.types;have cA:=L9 a w;have cB:=L9 b w;have cC:=λh1 h2=>j0b a b ha.ok hb.ok ht ⟨ha.ok,ha.det⟩ ⟨hb.ok,hb.det⟩ ps h1 h2;rw[q1e ⟨ha.ok,ha.det⟩ ⟨hb.ok,hb.det⟩ ht]at cC;simp only[encA,c1d]at cP cA cB cC;repeat(refine s_ ?_;simp)
 refine pcL (cP) ?_;simp;repeat(refine s_ ?_;simp)
 refine Qa rfl (λh4=>?_) (λh4=>?_)
 ·have z1:P0 a b ⟨v,ps,w⟩≠0:=by simpa using h4
  rw[if_pos z1]at hR;subst hR;repeat(refine s_ ?_;simp)
 have z1:P0 a b ⟨v,ps,w⟩=0:=by simpa using h4
 rw[if_neg (λk=>k z1)]at hR;rw[y0i]at z1;have z8:v=1\/v=2:=by
  by_cases k:v≠1/\v≠2
  ·rw[if_pos k]at z1;cases z1
  omega
 rw[if_neg (by omega)]at z1;have za:k19 a b ⟨v,ps,w⟩=0:=by
  split at z1
  ·cases z1
  exact z1
 obtain⟨e1,e2,e3,e4⟩:=u18 za;simp only at e1 e2 e3 e4;have z6:∀(m:Aut),Dfa m->m.types=a.types->w16 m w=(Ro m w,0):=λm hm zb=>by
  have hE:v1h m w=0:=by unfold v1h;rw[(Yh m).2 hm.ok,if_neg (by simp),if_neg (by omega),zb,e4]
  unfold w16;rw[hE];rfl
 rw[z6 a ha rfl]at cA;rw[z6 b hb ht]at cB;rcases z8 with rfl|rfl
 ·repeat(refine s_ ?_;simp)
  refine Qa rfl (λ_=>?_) (λh=>by simp at h);repeat(refine s_ ?_;simp)
  refine pcL (cC e1 e3) ?_;simp;repeat(refine s_ ?_;simp)
  rw[if_pos rfl]at hR;refine Qa rfl (λh=>?_) (λh=>?_)
  ·rw[if_neg (by simpa using h)]at hR;subst hR;repeat(refine s_ ?_;simp)
  rw[if_pos (by simpa using h)]at hR;subst hR;repeat(refine s_ ?_;simp)
 repeat(refine s_ ?_;simp)
 refine Qa rfl (λh=>by simp at h) (λ_=>?_);repeat(refine s_ ?_;simp)
 refine pcL (cA) ?_;simp;repeat(refine s_ ?_;simp)
 refine pcL (cB) ?_;simp;repeat(refine s_ ?_;simp)
 refine Qa rfl (λh=>?_) (λh=>?_)
 ·have h':Ro a w=Ro b w:=by simpa using h
  simp[h']at hR;subst hR;repeat(refine s_ ?_;simp)
 have h':¬Ro a w=Ro b w:=by simpa using h
 simp[h']at hR;subst hR;repeat(refine s_ ?_;simp)
end
section
open Go Go.Proofs Go.Maps Go.RowKit
attribute [local irreducible] k0y Vz q0m
end
section
open Go Go.Proofs Go.Maps Go.RowKit
attribute [local irreducible] V0 k0y Vz q0m El
end
section
open Go Go.Proofs Go.Maps Go.RowKit
attribute [local irreducible] V0 q0m
end
section
open Go Go.Proofs Go.Maps Go.RowKit
attribute [local irreducible] V0 Vz El R8 w16
end
section
open Go Go.Proofs Go.Maps Go.RowKit
section
variable {P:Program} [Env P] {nt k:Nat} {S:AS} {ops:Array Oper} {o:Oper} {R:AS->Prop}
def Ns{wr:Bool}(hw:Qt ops S o=some true)(hd:Wm nt o=true)(ho:o.op= .assign (.const (.map none)))(hR:R (S.putD o.dst .top)):We P nt k wr ops o S R:=
 x1p hw hd (λW0 I0 w I m a z1 z6=>⟨.map none,by simp[execOp,ho,Act.eval],.pure (.top _)⟩) hR
end
def k0i(a:Aut)(near:Gf):Ye a near 0=V6 a near (Yo a a):=by unfold Ye V6;refine tR λs _=>?_;unfold Gg Hb;cases lkN near s<;>simp
def k0c(a:Aut)(near:Gf)(d:Nat):Ye a near (d+1)=V6 a near (λs=>V5 near (d:Int) (Ww a a s)):=by
 unfold Ye V6;refine tR λs _=>?_;unfold Gg Hb V5
 congr 1
 ·cases lkN near s<;>simp
 show(Ww a a s).any _=(Ww a a s).any _
 congr 1
 funext e;cases lkN near e.2 with
 |none=>simp
 |some k=>simp;omega
structure NB (a:Aut) (near:Gf):Prop where
 nk:NK near
 inn:∀e∈near,inP a e.1
 bd:∀e∈near,e.2<=1000000
def NB.len{a:Aut}{near:Gf}(h:NB a near):near.length<=a.fin.length * a.fin.length:=by
 have e:near.length=(near.map (·.1)).length:=by rw[yL]
 rw[<-Pa,e];refine Yw _ _ h.nk.nd λx hx=>?_;obtain⟨e,he,rfl⟩:=zU.1 hx;exact Df (h.inn e he).1 (h.inn e he).2
def NB.add{a:Aut}(ha:OkA a){near:Gf}(h:NB a near)(pf:Int×Int->Bool)(d:Nat)(hd:d<=1000000):NB a (near++(V6 a near pf).map λs=>(s,d)):=by
 refine⟨h.nk.round ha pf d (l:=V6 a near pf) (r:=[]) (by simp),λe he=>?_,λe he=>?_⟩;rcases yB.1 he with he|he
 ·exact h.inn e he
 ·obtain⟨s,hs,rfl⟩:=zU.1 he;exact(Vr hs).1
 rcases yB.1 he with he|he
 ·exact h.bd e he
 obtain⟨s,hs,rfl⟩:=zU.1 he;exact hd
def q2c(a:Aut):NB a []:=⟨⟨by simp,by simp⟩,by simp,by simp⟩
def u04(a:Aut)(f d:Nat)(near:Gf):Kq a (f+1) d near=if Ye a near d=[]then near else Kq a f (d+1) (near++(Ye a near d).map λs=>(s,d)):=by rw[Kq]
def c03(a:Aut):Uq a=Kq a (a.fin.length * a.fin.length+1) 1 ((Ye a [] 0).map λs=>(s,0)):=rfl
attribute [local irreducible] Wa E4 Tj Ww Yo lkN V5 V6 Kq Uq
def N0(a:Aut)(ha:OkA a)(H:List AObj):FC prog 178 [Rc a] H (λr H'=>∃M,r= .mref M/\H.length<=M/\H'[M]?=some (mpN (Uq a))/\NB a (Uq a)/\∀i,i<H.length->H'[i]? =H[i]?):=by
 refine fcB func178 results178 ntmps178 ?_;simp only[Qe];simp only[Rc,Q3];have z6:=ha.fin;repeat(refine s_ ?_;simp)
 refine Ns rfl rfl rfl ?_;simp;repeat(refine s_ ?_;simp)
 refine W8 rfl rfl rfl ?_;simp;repeat(refine s_ ?_;simp)
 refine Hy λZ hZ=>?_;have zA:Z[H.length]?=some (.vars (Q3 a)):=by rw[hZ,zO (by omega)];simp[Q3]
 have zM:Z[H.length+1]?=some (mpN []):=by rw[hZ,zO (by omega)];simp[mpN,kvN]
 have zN:Z[H.length+2]?=some (.vars [.mref (H.length+1)]):=by rw[hZ,zO (by omega)];simp
 have zC:Z[H.length+3]?=some (.vars [.i a.fin.length]):=by rw[hZ,zO (by omega)];simp
 have zk:∀i,i<H.length->Z[i]? =H[i]? :=λi hi=>by rw[hZ,zI hi]
 clear hZ;refine Q0 rfl rfl (y0v a ha Z (H.length+3) (H.length+2) (H.length+1) [] 0 (Yo a a) 227 [.vptr H.length 0] zC zN zM (q2c a).nk (λp q H' hp hq hk=>FC.mono (u1g a ha H' H.length ((hk _ (Qf zA)).trans zA) p q hp hq) (λr K ⟨h1,h2⟩=>⟨h1,λi _=>by rw[h2]⟩))) rfl ?_;rintro _ Y ⟨rfl,yM,yk⟩;simp;have yA:=(yk _ (Qf zA) (by omega)).trans zA;have yN:=(yk _ (Qf zN) (by omega)).trans zN;have yC:=(yk _ (Qf zC) (by omega)).trans zC;have zc:=Qf zC;have z7:∀i,i<H.length->Y[i]? =H[i]? :=λi hi=>(yk i (by omega) (by omega)).trans (zk i hi);clear zA zM zN zC zk yk zc;clear Z;have z8:=c03 a;rw[k0i]at z8;have za:=(q2c a).add ha (Yo a a) 0 (by omega);rw[List.nil_append]at yM za;generalize zd:(V6 a [] (Yo a a)).map (λs=>(s,0))=near1 at *
 obtain⟨R,hR⟩:∃R,Uq a=R:=⟨_,rfl⟩
 rw[hR]at z8 |-;have zb:=Qf yC;repeat(refine s_ ?_;simp)
 refine Qi (Qc (sl':=[(1,.vptr H.length 0),(2,.top),(3,.vptr (H.length+2) 0),(4,.vptr (H.length+3) 0),(5,.fn (.func 226) [] [.vptr (H.length+3) 0,.vptr (H.length+2) 0]),(6,.vptr Y.length 0)]) ?_ (by simp));refine Qj (P:=prog) (F:=λ(u:Nat×Nat×Gf×Nat×List AObj)=>⟨[(1,.vptr H.length 0),(2,.top),(3,.vptr (H.length+2) 0),(4,.vptr (H.length+3) 0),(5,.fn (.func 226) [] [.vptr (H.length+3) 0,.vptr (H.length+2) 0]),(6,.vptr u.1 0)],u.2.2.2.2⟩)
  (λu=>NB a u.2.2.1/\1<=u.2.1/\u.2.1<=u.2.2.1.length+1/\a.fin.length * a.fin.length+1<=u.2.2.1.length+u.2.2.2.1/\R=Kq a u.2.2.2.1 u.2.1 u.2.2.1/\u.2.2.2.2[H.length]?=some (.vars (Q3 a))/\u.2.2.2.2[H.length+1]?=some (mpN u.2.2.1)/\u.2.2.2.2[H.length+2]?=some (.vars [.mref (H.length+1)])/\u.2.2.2.2[H.length+3]?=some (.vars [.i a.fin.length])/\u.2.2.2.2[u.1]?=some (.vars [.i u.2.1])/\∀i,i<H.length->u.2.2.2.2[i]? =H[i]?)
  (λu=>u.2.2.2.1) ?_ (Y.length,1,near1,a.fin.length * a.fin.length+1,Y++[.vars [.i 1]]) ⟨za,zW _,by simp,by simp,z8,Qb yA _,Qb yM _,Qb yN _,Qb yC _,by simp,λi hi=>by rw[zI (by omega)];exact z7 i hi⟩
 clear z8 za zd yA yM yN yC z7 zb;clear Y;rintro⟨D,d,near,F,G⟩ ⟨hb,ze,zf,hF,z1,gA,gM,gN,gC,gD,gk⟩ ih;simp only at hb ze zf hF z1 gA gM gN gC gD gk ih |-;have zi:=hb.len;have zj:a.fin.length * a.fin.length<=65536:=yW (Nat.mul_le_mul z6.2 z6.2) (by decide);obtain⟨e,rfl⟩:∃e,d=e+1:=⟨d - 1,by omega⟩
 obtain⟨F,rfl⟩:∃f,F=f+1:=⟨F - 1,by omega⟩
 rw[u04,k0c]at z1;repeat(refine s_ ?_;simp[gD])
 refine Q0 rfl rfl (y0v a ha G (H.length+3) (H.length+2) (H.length+1) near (e+1) (λs=>V5 near (e:Int) (Ww a a s)) 228 [.vptr H.length 0,.vptr (H.length+2) 0,.vptr D 0] gC gN gM hb.nk (λp q H' hp hq hk=>FC.mono (j16 a ha H' H.length (H.length+2) (H.length+1) D near (e+1) ((hk _ (Qf gA)).trans gA) ((hk _ (Qf gN)).trans gN) ((hk _ (Qf gM)).trans gM) ((hk _ (Qf gD)).trans gD) (by omega) hb.nk p q hp hq) (λr K ⟨h1,h2⟩=>⟨by rw[h1];congr 2;omega,h2⟩))) rfl ?_;rintro _ Y ⟨rfl,yM,yk⟩;simp;have zg:D≠H.length+1:=λe=>by rw[e,gM]at gD;simp[mpN]at gD
 have yD:=(yk _ (Qf gD) zg).trans gD;have yA:=(yk _ (Qf gA) (by omega)).trans gA;have yN:=(yk _ (Qf gN) (by omega)).trans gN;have yC:=(yk _ (Qf gC) (by omega)).trans gC;have zl:=Qf gC;have z7:∀i,i<H.length->Y[i]? =H[i]? :=λi hi=>(yk i (by omega) (by omega)).trans (gk i hi);have zh:=hb.add ha (λs=>V5 near (e:Int) (Ww a a s)) (e+1) (by omega);generalize V6 a near (λs=>V5 near (e:Int) (Ww a a s))=L at *
 refine Qa rfl (λh=>?_) (λh=>?_)
 ·have hL:0<L.length:=by simpa using h
  rw[if_neg (λk=>by rw[k]at hL;simp at hL)]at z1;have hw:IntKind.i64.wrap ((e:Int)+1+1)=e+1+1:=wrap_i64 _ (by omega) (by omega);repeat(refine s_ ?_;simp[yD,hw])
  refine Qc (sl':=[(1,.vptr H.length 0),(2,.top),(3,.vptr (H.length+2) 0),(4,.vptr (H.length+3) 0),(5,.fn (.func 226) [] [.vptr (H.length+3) 0,.vptr (H.length+2) 0]),(6,.vptr Y.length 0)]) ?_ (by simp);have zb:=Qf yC;refine ih (Y.length,e+1+1,near++L.map (λs=>(s,e+1)),F,_) ⟨zh,by simp only;omega,by simp;omega,by simp;omega,z1,?_,?_,?_,?_,?_,λi hi=>?_⟩ (by simp only;omega)
  ·exact Qb yA _
  ·exact Qb yM _
  ·exact Qb yN _
  ·exact Qb yC _
  ·simp
  simp only;rw[zI (by omega)];exact z7 i hi
 have hL:L=[]:=by
  cases L with
  |nil=>rfl
  |cons x l=>simp at h
 subst hL;rw[if_pos rfl]at z1;subst z1;repeat(refine s_ ?_;simp[yN])
 refine⟨by simpa using yM,hb,z7⟩
end
section
open Go Go.Proofs Go.Maps Go.RowKit
attribute [local irreducible] Wa E4 Tj Ww Yo lkN Hl K0
end
section
open Go Go.Proofs Go.Maps Go.RowKit
def f0h(H:List AObj)(q:Nat)(l:List Int)(g:Nat)(cs:List AV)(f:Int->Bool)(hq:H[q]?=some (.arr 3 1 (l.map AV.i)))(n:Nat)(hn:l.length=n)(hl:l.length<=1000000000)(hg:∀z∈l,FC prog g ([]++[.i z]++cs) H (λr H'=>r= .bool (f z)/\H'=H)):
  FC prog 106 [.sl q 1 0 n,.fn (.func g) [] cs] H (λr H'=>r= .i (Nq f l)/\H'=H):=by
 subst hn;refine fcB func106 results106 ntmps106 ?_;simp only[Qe];repeat(refine s_ ?_;simp)
 refine Qi (Qc (sl':=[(0,.sl q 1 0 l.length),(1,.fn (.func g) [] cs),(7,.i l.length),(8,.i 0)]) ?_ (by simp));refine Qj (F:=λ(j:Nat)=>⟨[(0,.sl q 1 0 l.length),(1,.fn (.func g) [] cs),(7,.i l.length),(8,.i j)],H⟩)
  (λj=>j<=l.length/\∀i,∀hi:i<l.length,i<j->f l[i]=false) (λj=>l.length - j) ?_ 0 ⟨by simp,by simp⟩
 rintro j ⟨hj,hI⟩ ih;repeat(refine s_ ?_;simp)
 refine Qa rfl (λz7=>?_) (λz8=>?_)
 ·have z1:j<l.length:=by simpa using z7
  have hw:=wz j (by omega);have za:(l.map AV.i)[j]?=some (.i l[j]):=by simp[z1]
  have zb:∀hh,(l.map AV.i)[j]'hh= .i l[j]:=λhh=>by simp
  repeat(refine s_ ?_;simp[z1,hq,za,zb])
  refine Q0 rfl rfl (hg _ (zT z1)) rfl ?_;rintro r H' ⟨rfl,rfl⟩;simp;repeat(refine s_ ?_;simp)
  refine Qa rfl (λh=>?_) (λh=>?_)
  ·repeat(refine s_ ?_;simp)
   rw[Cv z1 h hI]
  repeat(refine s_ ?_;simp[hw])
  refine Qc (sl':=[(0,.sl q 1 0 l.length),(1,.fn (.func g) [] cs),(7,.i l.length),(8,.i (j+1:Nat))]) (ih (j+1) ⟨by omega,λi hi zc=>?_⟩ (by omega)) (by simp);by_cases e:i=j
  ·subst e;exact h
  exact hI i hi (by omega)
 have z6:j=l.length:=by simp at z8;omega
 subst z6;repeat(refine s_ ?_;simp)
 rw[Gy hI]
attribute [local irreducible] Wa E4 Tj Ww Yo lkN Uq S3
def z2z(a:Aut)(i k:Nat):eqS a i k=(lkN (Uq a) ((i:Int),(k:Int))).isNone:=rfl
def q0y(a:Aut)(ha:OkA a)(H:List AObj)(N M I:Nat)(i k:Nat)(hN:H[N]?=some (.vars [.mref M]))(hM:H[M]?=some (mpN (Uq a)))(hI:H[I]?=some (.vars [.i i]))(hb:NB a (Uq a))(hi:i<a.fin.length)(hk:k<a.fin.length):
  FC prog 179 [.i k,.vptr N 0,.vptr I 0] H (λr H'=>r= .bool (eqS a i k)/\H'=H):=by
 refine fcB func179 results179 ntmps179 ?_;simp only[Qe];rw[z2z];repeat(refine s_ ?_;simp[hN,hI])
 refine Al rfl rfl rfl rfl (s:=((i:Int),(k:Int))) rfl (near:=Uq a) hM hb.nk (Bm ha ha ⟨Is hi,Is hk⟩) ?_;simp;repeat(refine s_ ?_;simp)
def z2b(E:Nat->Bool)(l:List Nat):Nq (λz:Int=>E z.toNat) (Yl l)=match l.findIdx? E with|some t=>(t:Int)|none=> -1:=by
 have:(Yl l).findIdx? (λz:Int=>E z.toNat)=l.findIdx? E:=by
  unfold Yl;rw[tS]
  congr 1
 show(match (Yl l).findIdx? (λz:Int=>E z.toNat)with|some i=>(i:Int)|none=> -1)=_;rw[this]
attribute [local irreducible] eqS
def w00(a:Aut)(ha:Dfa a):PC prog 117 [Rc a] (λr=>r=LI (Yl (clA a))):=by
 refine pcB func117 results117 ntmps117 ?_;simp only[Qe];simp only[Rc,Q3];have zq:=ha.ok.fin;repeat(refine s_ ?_;simp)
 refine Q0 rfl rfl (N0 a ha.ok _) rfl ?_;rintro _ Y ⟨M,rfl,zz,zb,zr,hk⟩;simp;have y0:Y[0]?=some (.vars (Q3 a)):=hk 0 (by simp);clear hk;have y1:=Qf zb;have y2:=Qf y0;have y0A:∀L,(Y++L)[0]?=some (.vars [.i a.types,.list (a.fin.map .bool),.list (a.mv.map encMv),.list (Tj a)]):=λL=>Qb y0 L;have y0H:∀L hh,(Y++L)[0]'hh= .vars [.i a.types,.list (a.fin.map .bool),.list (a.mv.map encMv),.list (Tj a)]:=λL hh=>(yI hh).2 (y0A L);repeat(refine s_ ?_;simp[y0A,y0H])
 refine Qp (sl':=[(1,.vptr 0 0),(2,.nils),(3,.vptr Y.length 0),(4,.nils),(5,.nils),(13,.i a.fin.length),(14,.i (0:Nat))]) ?_ (by simp);refine Q5 4 3 1 rfl ?_;simp;refine Q5 5 3 1 rfl ?_;simp;refine Wb λZ hZ=>?_;have zM:Z[M]?=some (mpN (Uq a)):=by rw[hZ];exact Qb zb _
 have zN:Z[Y.length]?=some (.vars [.mref M]):=by rw[hZ,zO (by omega)];simp
 have zo:Z[Y.length+1]?=some (.arr 3 1 []):=by rw[hZ,zO (by omega)];simp
 have zf:Z[Y.length+2]?=some (.arr 3 1 []):=by rw[hZ,zO (by omega)];simp
 clear hZ y0A y0H y0;generalize Y.length=N at *;clear zb;clear Y
 have zc:S3 (eqS a) 0=([],[]):=by unfold S3;rfl
 have zd:clA a=(S3 (eqS a) a.fin.length).2:=rfl;rw[zd];refine Qi (Qc (sl':=[(1,.vptr 0 0),(2,.nils),(3,.vptr N 0),(4,.sl (N+1) 1 0 (S3 (eqS a) 0).2.length),(5,.sl (N+2) 1 0 (S3 (eqS a) 0).1.length),(13,.i a.fin.length),(14,.i (0:Nat))]) ?_ (by simp[zc]));refine Qj (P:=prog) (F:=λ(u:Nat×Nat×Nat×List AObj)=>⟨[(1,.vptr 0 0),(2,.nils),(3,.vptr N 0),(4,.sl u.2.1 1 0 (S3 (eqS a) u.1).2.length),(5,.sl u.2.2.1 1 0 (S3 (eqS a) u.1).1.length),(13,.i a.fin.length),(14,.i u.1)],u.2.2.2⟩)
  (λu=>u.1<=a.fin.length/\u.2.2.2[M]?=some (mpN (Uq a))/\u.2.2.2[N]?=some (.vars [.mref M])/\u.2.2.2[u.2.1]?=some (.arr 3 1 ((Yl (S3 (eqS a) u.1).2).map AV.i))/\u.2.2.2[u.2.2.1]?=some (.arr 3 1 ((Yl (S3 (eqS a) u.1).1).map AV.i))/\u.2.1≠u.2.2.1) (λu=>a.fin.length - u.1) ?_ (0,N+1,N+2,Z) ⟨xP _,zM,zN,by rw[zc];exact zo,by rw[zc];exact zf,by simp⟩
 clear zM zN zo zf;clear Z;rintro⟨i,qo,q9,G⟩ ⟨hi,gM,gN,go,gf,ze⟩ ih;simp only at hi gM gN go gf ze ih |-;have z7:=z0j (j17 ha) i hi;have zg:=z7.len;have zh:(S3 (eqS a) i).1.length<=i:=by have zt:(S3 (eqS a) i).1.Nodup:=z7.asc.imp λh=>Nat.ne_of_lt h;have:=Yw _ (y_ i) zt λx hx=>xD.2 (z7.lt x hx);simpa using this
 have z8:=z7.lt;repeat(refine s_ ?_;simp)
 refine Qa rfl (λzu=>?_) (λzv=>?_)
 ·have zi:i<a.fin.length:=by simpa using zu
  have hw:=wz i (by omega);have zm:=N2 (eqS a) i;have z1:=λq' q2 H'=>ih (i+1,q',q2,H');simp only[zm]at z1;unfold Vm at z1;generalize S3 (eqS a) i=st at *
  obtain⟨fs,out⟩:=st;simp only at z1 zg zh z8 go gf;clear z7 zm;repeat(refine s_ ?_;simp)
  have y3:=Qf gN;have y4:=Qf go;have y5:=Qf gf;refine Q0 rfl rfl (f0h (G++[AObj.vars [AV.i (i:Int)]]) q9 (Yl fs) 179 [.vptr N 0,.vptr G.length 0] (λz=>eqS a i z.toNat) (Qb gf _) fs.length (by simp) (by simp;omega) (λz hz=>by
   obtain⟨k,hk,rfl⟩:=zU.1 hz;have y6:=z8 k hk;exact q0y a ha.ok _ N M G.length i k (Qb gN _) (Qb gM _) (by simp) zr zi (by omega))) rfl ?_
  rintro _ _ ⟨rfl,rfl⟩;rw[z2b];simp;have kI:(G++[AObj.vars [AV.i (i:Int)]])[G.length]?=some (.vars [.i i]):=by simp
  have kM:(G++[AObj.vars [AV.i (i:Int)]])[M]?=some (mpN (Uq a)):=Qb gM _;have kN:(G++[AObj.vars [AV.i (i:Int)]])[N]?=some (.vars [.mref M]):=Qb gN _;have ko:(G++[AObj.vars [AV.i (i:Int)]])[qo]?=some (.arr 3 1 ((Yl out).map AV.i)):=Qb go _;have kf:(G++[AObj.vars [AV.i (i:Int)]])[q9]?=some (.arr 3 1 ((Yl fs).map AV.i)):=Qb gf _;generalize G.length=I at *;generalize G++[AObj.vars [AV.i (i:Int)]]=Y at *
  have z6:((Yl out).map AV.i).length=out.length:=by simp
  have za:((Yl fs).map AV.i).length=fs.length:=by simp
  have zn:qo≠M:=λe=>by rw[e,kM]at ko;simp[mpN]at ko
  have zp:qo≠N:=λe=>by rw[e,kN]at ko;simp at ko
  have zw:q9≠M:=λe=>by rw[e,kM]at kf;simp[mpN]at kf
  have zx:q9≠N:=λe=>by rw[e,kN]at kf;simp at kf
  have y7:q9≠I:=λe=>by rw[e,kI]at kf;simp at kf
  have mo:∀c:Nat,(Yl (out++[c])).map AV.i=(Yl out).map AV.i++[.i c]:=λc=>by simp
  have mf:∀c:Nat,(Yl (fs++[c])).map AV.i=(Yl fs).map AV.i++[.i c]:=λc=>by simp
  cases hix:fs.findIdx? (eqS a i)with
  |some t=>
   rw[hix]at z1;simp only[mo]at z1;generalize (Yl out).map AV.i=ao at *
   repeat(refine s_ ?_;simp)
   refine Qa rfl (λh=>by first|(simp at h;done)|(simp at h;omega)) (λ_=>?_);repeat(refine s_ ?_;simp)
   refine apS T47 T3 ?_;simp[Qb ko,Qh ko,z6];refine⟨by simp[W1,Qb ko,Qh ko,z6]<;>omega,?_⟩;repeat(refine s_ ?_;simp[hw])
   refine Qc (sl':=[(1,.vptr 0 0),(2,.nils),(3,.vptr N 0),(4,.sl (Y.length+1) 1 0 (out++[t]).length),(5,.sl q9 1 0 fs.length),(13,.i a.fin.length),(14,.i (i+1:Nat))]) ?_ (by simp);refine z1 (Y.length+1) q9 _ ⟨by omega,Qb (Qd zn kM _) _,Qb (Qd zp kN _) _,?_,Qb (Qd ze kf _) _,by have:=Qf kf;omega⟩ (by omega);rw[zO (by simp)];simp
  |none=>
   rw[hix]at z1;simp only[mo,mf]at z1;generalize (Yl out).map AV.i=ao at *;generalize (Yl fs).map AV.i=af at *
   repeat(refine s_ ?_;simp)
   refine Qa rfl (λ_=>?_) (λh=>by first|(simp at h;done)|(simp at h;omega));repeat(refine s_ ?_;simp[kI])
   refine apS T47 T3 ?_;simp[Qb kf,Qh kf,za];refine⟨by simp[W1,Qb kf,Qh kf,za]<;>omega,?_⟩;refine Wb λZ hZ=>?_;have zM:Z[M]?=some (mpN (Uq a)):=by rw[hZ];exact Qb (Qd zw kM _) _
   have zN:Z[N]?=some (.vars [.mref M]):=by rw[hZ];exact Qb (Qd zx kN _) _
   have zo:Z[qo]?=some (.arr 3 1 ao):=by rw[hZ];exact Qb (Qd (Ne.symm ze) ko _) _
   have zf:Z[Y.length+1]?=some (.arr 3 1 (af++[.i i])):=by rw[hZ,zO (by simp)];simp
   have zj:qo≠Y.length+1:=by have:=Qf ko;omega
   clear hZ;generalize Y.length+1=qf2 at *
   repeat(refine s_ ?_;simp)
   refine apS T47 T3 ?_;simp[Qb zo,Qh zo,z6];refine⟨by simp[W1,Qb zo,Qh zo,z6]<;>omega,?_⟩;repeat(refine s_ ?_;simp[hw])
   refine Qc (sl':=[(1,.vptr 0 0),(2,.nils),(3,.vptr N 0),(4,.sl (Z.length+1) 1 0 (out++[fs.length]).length),(5,.sl qf2 1 0 (fs++[i]).length),(13,.i a.fin.length),(14,.i (i+1:Nat))]) ?_ (by simp);refine z1 (Z.length+1) qf2 _ ⟨by omega,Qb (Qd zn zM _) _,Qb (Qd zp zN _) _,?_,Qb (Qd zj zf _) _,by have:=Qf zf;omega⟩ (by omega);rw[zO (by simp)];simp
 have zk:i=a.fin.length:=by simp at zv;omega
 subst zk;have zy:((Yl (S3 (eqS a) a.fin.length).2).map AV.i).length=(S3 (eqS a) a.fin.length).2.length:=by simp
 generalize zl:(Yl (S3 (eqS a) a.fin.length).2).map AV.i=acc at *
 repeat(refine s_ ?_;simp[go,zy])
 rw[zZ (by omega),<-zl];simp
end
section
open Go Go.Proofs Go.Maps Go.RowKit
@[simp] theorem encMac_pure (a:Aut):(Rc a).pure=true:=by simp[Rc,Q3,Tj,Yk,AV.pure]
attribute [local irreducible] Dq Kz Wa E4 Tj Ww Yo lkN Uq S3 clA Hl
end
section
open Go Go.Proofs Go.RowKit Go.Shelf Go.Lib Go.Sort
abbrev BIv:={ x:Iv // Dk x }
instance:Inhabited BIv:=⟨⟨⟨0,0⟩,by unfold Dk inB;decide⟩⟩
def v1t(x:BIv):List Value:=Zd x.1
def v2t(x y:BIv):Int:=x.1.lo - y.1.lo
def z0s(x y:BIv)(W:World):Calls prog 203 #[.agg #[.int .i64 x.1.lo,.int .i64 x.1.hi],.agg #[.int .i64 y.1.lo,.int .i64 y.1.hi]] W λe w'=>e= .returned (.int .i64 (v2t x y))/\∃q os',w'=grow (W.drewN q) os':=by
 have h1:=(Ev _).1 x.2.1;have h2:=(Ev _).1 y.2.1;have hw:IntKind.i64.wrap (x.1.lo - y.1.lo)=v2t x y:=wrap_i64 _ (by omega) (by omega)
 go_enter func203,ntmps203
 go_wp2
 go_ret
 exact⟨rfl,0,_,by rw[alloc_eq_grow,alloc_eq_grow,grow_grow];rfl⟩
def j1j(x y:BIv):ltOf v2t x y=decide (x.1.lo<y.1.lo):=by unfold ltOf v2t;rw[wB];simp;omega
def k2b:SWO (ltOf v2t) where
 irrefl x:=by rw[j1j];simp
 trans x y z h1 h2:=by rw[j1j]at *;simp at *;omega
 ntrans x y z h1 h2:=by rw[j1j]at *;simp at *;omega
def d2q(l:List BIv):RowOf 2 ((l.map (·.1)).map encIv) (flatK v1t 2 l.toArray) where
 size:=by simp
 width x hx:=by obtain⟨y,_,rfl⟩:=zU.1 hx;rfl
 cell i x hx j y hy:=by
  rw[z_,z_]at hx;obtain⟨z0,z1,rfl⟩:=zX.1 hx;obtain⟨z,hz,rfl⟩:=zX.1 z1;obtain⟨hi,rfl⟩:=zE.1 hz;have hj:j<2:=(zE.1 hy).1;rw[get_flatK _ _ _ _ (by simp;omega)];rw[show(i * 2+j) / 2=i by omega,show(i * 2+j) % 2=j by omega];rw[getElem!_pos l.toArray i (by simpa using hi)]
  match j,hj with
  |0,_=>simp[encIv,AV.cells]at hy;subst hy;rfl
  |1,_=>simp[encIv,AV.cells]at hy;subst hy;rfl
def w1w(H:List AObj)(p:Nat)(l:List BIv)(hp:H[p]?=some (.arr 144 2 ((l.map (·.1)).map encIv)))(hl:l.length<=1000000):
  FC prog 174 [.sl p 2 0 l.length,.fn (.func 203) [] []] H
   (λr H'=>r= .tup []/\∃l':List BIv,l'.Perm l/\Ni (l'.map (·.1))/\H'=H.set p (.arr 144 2 ((l'.map (·.1)).map encIv))):=by
 refine(w1d (xs:=(l.map (·.1)).map encIv) (R9 func174 rfl rfl) (by simp) hp (d2q l) [.func (.func 203) #[] #[]] (λw I m vs a b=>Hv _ w I m _ vs a b) (λz1=>∃l':List BIv,l'.Perm l/\Ni (l'.map (·.1))/\z1=(l'.map (·.1)).map encIv) ?_ ?_).mono ?_
 ·intro b cap w hH hb hc;have eg:∀args w,(callFunc 203 args).run prog w= .ok (.enter 203 args) w:=enters_of func203 (by kernel_rfl) rfl;have:=AnyQ.slices_SortFunc Tryz.sortIv 2 isAgg144 sizeOf144 v1t (λ_=>rfl) (λx v hv=>by simp[v1t,Zd]at hv;rcases hv with rfl|rfl<;>rfl) v2t k2b 203 #[] b 0 cap l.toArray w eg (λ_ _ _ _ x y=>z0s x y _) hH hb (by simp;omega);change Calls prog 174 _ _ _ at this;rw[show(l.toArray).size=l.length by simp]at this;refine Calls.mono (this) ?_;rintro e w' ⟨rfl,d',n,os,h1,h2,rfl⟩;obtain⟨s1,_,s3⟩:=h1;have hs:d'.toList.length=l.length:=by simpa using s1
  refine⟨rfl,(d'.toList.map (·.1)).map encIv,flatK v1t 2 d',n,os,⟨d'.toList,?_,?_,rfl⟩,by simp[hs],by simpa using d2q d'.toList,rfl⟩
  ·rw[show d'.extract 0 l.length=d' by simp[<-hs],show l.toArray.extract 0 l.length=l.toArray by simp]at s3;simpa using s3
  refine xS.2 (yU.2 λi j hi hj z6=>?_);have:=h2 i j (xP _) z6 (by omega);rw[j1j,getElem!_pos d' i (by simpa using hi),getElem!_pos d' j (by simpa using hj)]at this;simpa using this
 ·rintro h;have z7:l=[]:=by
   cases l with
   |nil=>rfl
   |cons x r=>simp at h
  subst z7;exact⟨⟨[],.refl _,.nil,rfl⟩,λw=>AnyF.slices_SortFunc_none Tryz.sortIv none 0 _ w⟩
 rintro r H' ⟨rfl,z1,⟨l',h1,h2,rfl⟩,rfl⟩;exact⟨rfl,l',h1,h2,rfl⟩
def k1j(H:List AObj)(p:Nat)(l:List Iv)(hp:H[p]?=some (.arr 144 2 (l.map encIv)))(hl:l.length<=1000000)(z1:∀y∈l,Dk y):
  FC prog 174 [.sl p 2 0 l.length,.fn (.func 203) [] []] H
   (λr H'=>r= .tup []/\∃l':List Iv,l'.Perm l/\Ni l'/\H'=H.set p (.arr 144 2 (l'.map encIv))):=by
 have hb:(l.attach.map λx=>(⟨x.1,z1 x.1 x.2⟩:BIv)).map (·.1)=l:=by simp
 have:=w1w H p (l.attach.map λx=>(⟨x.1,z1 x.1 x.2⟩:BIv)) (by rw[hb];exact hp) (by simpa using hl);rw[show(l.attach.map λx=>(⟨x.1,z1 x.1 x.2⟩:BIv)).length=l.length by simp]at this;refine this.mono ?_;rintro r H' ⟨rfl,l',h1,h2,rfl⟩;refine⟨rfl,l'.map (·.1),?_,h2,rfl⟩;have:=h1.map (·.1)
 rwa [hb]at this
end
section
open Go Go.Proofs Go.Maps Go.RowKit
attribute [local irreducible] Eb Qz E5 Qw Uw G6
def Ms(T:Nat)(l:List Prd)(hT:T<=16)(hl:∀p∈l,PWf T p)(hn:∀i,i<T->(Qw l i).length<=1000000)(ye:l.length<=1000000):PC prog 139 [.i T,LP l] (λr=>r=encP (Uw T l)):=by
 refine pcB func139 results139 ntmps139 ?_;simp only[Qe];simp only[encP];repeat(refine s_ ?_;simp)
 refine Er tOk rfl rfl rfl T68 rfl Km rfl rfl rfl (n:=T) (by simp;omega) (by unfold maxLen;omega) .nils rfl ?_;simp;repeat(refine s_ ?_;simp)
 rw[Mb (λk=>E5 (Qw l k))];refine Qi (Qc (sl':=[(0,.i T),(1,LP l),(4,.vptr 0 0),(5,.vptr 2 0),(17,.i T),(18,.i (0:Nat))]) ?_ (by simp));refine Qj (P:=prog) (F:=λ(u:Nat×List AObj)=>⟨[(0,.i T),(1,LP l),(4,.vptr 0 0),(5,.vptr 2 0),(17,.i T),(18,.i u.1)],u.2⟩)
  (λu=>u.1<=T/\3<=u.2.length/\u.2[0]?=some (.vars [.nils])/\u.2[1]?=some (.arr 145 1 (G6 (λk=>E5 (Qw l k)) T u.1))/\u.2[2]?=some (.vars [.sl 1 1 0 T])) (λu=>T - u.1) ?_ (0,_) ⟨by simp,by simp,rfl,rfl,rfl⟩
 rintro⟨i,H2⟩ ⟨hi,hH,g0,g1,g2⟩ ih;simp only at hi hH g0 g1 g2 ih |-;repeat(refine s_ ?_;simp)
 refine Qa rfl (λy3=>?_) (λy4=>?_)
 ·have z7:i<T:=by simpa using y3
  have hw:=wz i (by omega);have zd:=y0b (λk=>E5 (Qw l k)) z7;have zq:=y0f (λk=>E5 (Qw l k)) z7;have y5:=z09 (λk=>E5 (Qw l k)) T i;have zh:=hn i z7;have zr:=λH'=>ih (i+1,H');simp only[<-zd]at zr;clear zd;generalize G6 (λk=>E5 (Qw l k)) T i=row at *
  repeat(refine s_ ?_;simp)
  refine Qp (sl':=[(0,.i T),(1,LP l),(4,.vptr 0 0),(5,.vptr 2 0),(6,.i i),(7,.nils),(17,.i T),(18,.i i),(21,LP l),(22,.i l.length),(23,.i (0:Nat))]) ?_ (by simp);refine Q5 7 144 2 rfl ?_;simp;have hst:=SL.start H2 144 2;refine Qi (Qc (sl':=[(0,.i T),(1,LP l),(4,.vptr 0 0),(5,.vptr 2 0),(6,.i i),(7,.sl H2.length 2 0 (Qw (l.take 0) i).length),(17,.i T),(18,.i i),(21,LP l),(22,.i l.length),(23,.i (0:Nat))]) ?_ (by simp[U7]));refine Qj (P:=prog) (F:=λ(u:Nat×Nat×List AObj)=>⟨[(0,.i T),(1,LP l),(4,.vptr 0 0),(5,.vptr 2 0),(6,.i i),(7,.sl u.2.1 2 0 (Qw (l.take u.1) i).length),(17,.i T),(18,.i i),(21,LP l),(22,.i l.length),(23,.i u.1)],u.2.2⟩)
   (λu=>u.1<=l.length/\SL H2 u.2.2 u.2.1 144 2 ((Qw (l.take u.1) i).map encIv)) (λu=>l.length - u.1) ?_ (0,H2.length,_) ⟨xP _,by rw[wD,U7];exact hst⟩
  rintro⟨j,q,G⟩ ⟨hj,g⟩ ih2;simp only at hj g ih2 |-;repeat(refine s_ ?_;simp)
  refine Qa rfl (λza=>?_) (λzb=>?_)
  ·have z1:j<l.length:=by simpa using za
   have ze:=wz j (by omega);have hp:=hl _ (zT z1);have zi:i<l[j].length:=by rw[hp.1];exact z7
   have zc:=Av z1 zi;have zj:(Qw (l.take (j+1)) i).length<=1000000:=by refine yW ?_ zh;unfold Qw;rw[<-xW (j+1) l,wS,yP,xW];omega
   rw[zc,yP]at zj;have z6:=λq' G'=>ih2 (j+1,q',G');simp only[zc]at z6;clear zc;have zt:(uP encP l)[j]?=some (encP l[j]):=by simp[z1]
   have zu:∀hh,(uP encP l)[j]'hh=encP l[j]:=λhh=>by simp
   generalize l[j]=pj at *
   have y6:(pj.map encL)[i]?=some (encL pj[i]):=by simp[zi]
   have y7:∀hh,(pj.map encL)[i]'hh=encL pj[i]:=λhh=>by simp
   generalize pj[i]=s at *;generalize Qw (l.take j) i=acc at *
   have zv:(acc.map encIv).length=acc.length:=by simp
   simp only[encP]at zt zu;repeat(refine s_ ?_;simp[zt,zu,z1,zi,y6,y7])
   have g2:=g.add [.vars [.list (pj.map encL)]];generalize G++[AObj.vars [.list (pj.map encL)]]=Y at *;generalize zk:acc.map encIv=ac at *;refine apS Km q0k ?_
   simp[Qb g2.arr,Qh g2.arr,g2.arr,zv];refine⟨⟨λy hy=>?_,by simp[zv];omega⟩,?_⟩
   ·obtain⟨x,_,rfl⟩:=zU.1 hy;exact⟨rfl,rfl⟩
   repeat(refine s_ ?_;simp[ze])
   refine Qc (sl':=[(0,.i T),(1,LP l),(4,.vptr 0 0),(5,.vptr 2 0),(6,.i i),(7,.sl Y.length 2 0 (acc++s).length),(17,.i T),(18,.i i),(21,LP l),(22,.i l.length),(23,.i (j+1:Nat))]) ?_ (by simp);refine z6 Y.length _ ⟨by omega,?_⟩ (by omega);rw[xA,zk];exact g2.put [] (ac++s.map encIv) (by simp)
  have z8:j=l.length:=by simp at zb;omega
  subst z8;rw[yR]at g |-;have zl:∀y∈Qw l i,Dk y/\y.lo<=y.hi:=λy hy=>B0 hl hy;generalize yf:Qw l i=L at *
  have zm:=g.ge;repeat(refine s_ ?_;simp)
  refine Q0 rfl rfl (k1j G q L g.arr zh (λy hy=>(zl y hy).1)) rfl ?_;rintro r H' ⟨rfl,l',h1,h2,rfl⟩;simp;have hl':l'.length<=1000000:=by rw[h1.length_eq];exact zh
  have y8:=h1.length_eq;have zn:∀y∈l',Dk y:=λy hy=>(zl y (h1.mem_iff.1 hy)).1;have zf:=F0 L l' (λy hy=>(zl y hy).2) h1 h2;rw[<-y8];have gq:=Qg g.arr (.arr 144 2 (l'.map encIv));have gk:∀j,j<H2.length->(G.set q (.arr 144 2 (l'.map encIv)))[j]? =H2[j]? :=λj hj=>by rw[zH (by omega)];exact g.keep j hj
  generalize G.set q (.arr 144 2 (l'.map encIv))=G1 at *
  repeat(refine s_ ?_;simp)
  refine Qp (sl':=[(0,.i T),(1,LP l),(4,.vptr 0 0),(5,.vptr 2 0),(6,.i i),(10,.nils),(17,.i T),(18,.i i),(37,.sl q 2 0 l'.length),(38,.i l'.length),(39,.i (0:Nat))]) ?_ (by simp);refine Wu q gq ?_;simp[AV.fz];rw[zZ (by simp)];have y9:∀j,j<H2.length->(G1.set q .dead)[j]? =H2[j]? :=λj hj=>by rw[zH (by omega)];exact gk j hj
  have yg:H2.length<=(G1.set q .dead).length:=by have:=Qf gq;simp;omega
  generalize G1.set q .dead=K at *;refine Q5 10 144 2 rfl ?_
  simp;have hst:=SL.start K 144 2;refine Qi (Qc (sl':=[(0,.i T),(1,LP l),(4,.vptr 0 0),(5,.vptr 2 0),(6,.i i),(10,.sl K.length 2 0 (Qz [] (l'.take 0)).length),(17,.i T),(18,.i i),(37,LIv l'),(38,.i l'.length),(39,.i (0:Nat))]) ?_ (by simp[Qz]));refine Qj (P:=prog) (F:=λ(u:Nat×Nat×List AObj)=>⟨[(0,.i T),(1,LP l),(4,.vptr 0 0),(5,.vptr 2 0),(6,.i i),(10,.sl u.2.1 2 0 (Qz [] (l'.take u.1)).length),(17,.i T),(18,.i i),(37,LIv l'),(38,.i l'.length),(39,.i u.1)],u.2.2⟩)
   (λu=>u.1<=l'.length/\SL K u.2.2 u.2.1 144 2 ((Qz [] (l'.take u.1)).map encIv)) (λu=>l'.length - u.1) ?_ (0,K.length,_) ⟨xP _,by rw[wD,Qz,List.foldl_nil];exact hst⟩
  clear g gq gk ih2 hst zm;clear G G1 q;rintro⟨j,p,G⟩ ⟨hj,g⟩ ih2;simp only at hj g ih2 |-;repeat(refine s_ ?_;simp)
  refine Qa rfl (λza=>?_) (λzb=>?_)
  ·have z1:j<l'.length:=by simpa using za
   have ze:=wz j (by omega);have zd:Qz [] (l'.take (j+1))=Eb (Qz [] (l'.take j)) l'[j]:=by rw[zY z1,Ay]
   have zw:(Qz [] (l'.take j)).length<=j:=yW (Tu _ _) (by simp;omega);have zo:∀y∈Qz [] (l'.take j),Dk y:=A1 _ _ (by simp) (λy hy=>zn y (wd hy));have z6:=λp' G'=>ih2 (j+1,p',G');simp only[zd]at z6;clear zd;generalize Qz [] (l'.take j)=acc at *;generalize hx:l'[j]=x at *
   repeat(refine s_ ?_;simp[z1,hx])
   rcases List.eq_nil_or_concat acc with rfl|⟨ini,y,rfl⟩
   ·refine Qn tOk mixed [] (.val 0 (.val 1 (.val 2 (.val 3 (.val 4 (.val 5 (.val 6 (.val 7 (.val 8 (.val 9 (.val 10 (.val 11 (.val 12 (.val 13 (.done))))))))))))))) rfl (by kernel_rfl) ?_;simp;refine Qv rfl ?_;simp;repeat(refine s_ ?_;simp)
    refine apS Km q0k ?_;simp[Qb g.arr,Qh g.arr];refine⟨by simp[W1,Qb g.arr,Qh g.arr]<;>omega,?_⟩;repeat(refine s_ ?_;simp[ze])
    refine Qc (sl':=[(0,.i T),(1,LP l),(4,.vptr 0 0),(5,.vptr 2 0),(6,.i i),(10,.sl (G.length+2) 2 0 1),(17,.i T),(18,.i i),(37,LIv l'),(38,.i l'.length),(39,.i (j+1:Nat))]) ?_ (by simp);have:=z6 (G.length+2) _ ⟨by omega,by rw[Eb];exact g.put [AObj.vars [AV.i x.lo,AV.i x.hi],AObj.arr 144 2 [encIv x]] _ rfl⟩ (by omega);rw[Eb]at this;simpa using this
   have yh:=(Ev _).1 (zo y (by simp)).2;have zx:IntKind.i64.wrap (y.hi+1)=y.hi+1:=wrap_i64 _ (by omega) (by omega);have gA:=g.arr;rw[List.concat_eq_append]at g gA z6 zw |-;have hlen:(ini++[y]).length=ini.length+1:=by simp
   rw[hlen]at zw |-;have zy:IntKind.i64.wrap (ini.length:Int)=ini.length:=wrap_i64 _ (by omega) (by omega);have hg:((ini++[y]).map encIv)[ini.length]?=some (encIv y):=by simp
   have zg:(ini.length:Int)<ini.length+1:=by omega
   refine Qn tOk mixed [] (.val 0 (.val 1 (.val 2 (.val 3 (.val 4 (.val 5 (.val 6 (.val 7 (.val 8 (.val 9 (.val 10 (.val 11 (.val 12 (.val 13 (.done))))))))))))))) rfl (by kernel_rfl) ?_;simp[Qb gA,zy,hg,zx,zg];refine Qa rfl (λh1=>?_) (λh1=>?_)
   ·repeat(refine s_ ?_;simp)
    refine Qn tOk mixed [14] (.val 0 (.val 1 (.val 2 (.val 3 (.val 4 (.val 5 (.val 6 (.val 7 (.val 8 (.val 9 (.val 10 (.val 11 (.val 12 (.val 13 (.one 14 (.done)))))))))))))))) rfl (by kernel_rfl) ?_;simp[Qb gA,zy,hg,zx,zg,Qh gA];repeat(refine s_ ?_;simp[ze])
    have hR:Eb (ini++[y]) x=ini++[⟨y.lo,if y.hi<x.hi then x.hi else y.hi⟩]:=by rw[Eh,if_pos (by simpa using h1)]
    rw[hR]at z6;refine Qc (sl':=[(0,.i T),(1,LP l),(4,.vptr 0 0),(5,.vptr 2 0),(6,.i i),(10,.sl p 2 0 (ini.length+1)),(17,.i T),(18,.i i),(37,LIv l'),(38,.i l'.length),(39,.i (j+1:Nat))]) ?_ (by simp);have:=z6 p _ ⟨by omega,g.upd [AObj.vars [AV.i x.lo,AV.i x.hi]] _⟩ (by omega);simpa using this
   repeat(refine s_ ?_;simp)
   refine apS Km q0k ?_;simp[Qb gA,Qh gA];refine⟨by simp[W1,Qb gA,Qh gA]<;>omega,?_⟩;repeat(refine s_ ?_;simp[ze])
   have hR:Eb (ini++[y]) x=ini++[y]++[x]:=by rw[Eh,if_neg (by simpa using h1)]
   rw[hR]at z6;refine Qc (sl':=[(0,.i T),(1,LP l),(4,.vptr 0 0),(5,.vptr 2 0),(6,.i i),(10,.sl (G.length+2) 2 0 (ini.length+2)),(17,.i T),(18,.i i),(37,LIv l'),(38,.i l'.length),(39,.i (j+1:Nat))]) ?_ (by simp);have:=z6 (G.length+2) _ ⟨by omega,g.put [AObj.vars [AV.i x.lo,AV.i x.hi],AObj.arr 144 2 [encIv x]] _ rfl⟩ (by omega);simpa using this
  have z8:j=l'.length:=by simp at zb;omega
  subst z8;rw[yR,zf]at g |-;refine Wu p g.arr ?_;simp[AV.fz];rw[zZ (by simp)];have yi:=Qf g.arr;have ya:=g.ge;have yk:∀j,j<H2.length->(G.set p .dead)[j]? =H2[j]? :=λj hj=>by rw[zH (by omega),g.keep j (by omega)];exact y9 j hj
  have yl:3<=(G.set p .dead).length:=by simp;omega
  generalize G.set p .dead=Y at *
  have y0:=(yk 0 (by omega)).trans g0;have y1:=(yk 1 (by omega)).trans g1;have y2:=(yk 2 (by omega)).trans g2;have y1H:∀hh,Y[1]'hh= .arr 145 1 row:=λhh=>(yI hh).2 y1;have yb:∀hh,row[i]'hh= .nils:=λhh=>(yI hh).2 zq;repeat(refine s_ ?_;simp[y1,y2,y1H,z7,y5,zq,yb,hw])
  refine Qc (sl':=[(0,.i T),(1,LP l),(4,.vptr 0 0),(5,.vptr 2 0),(17,.i T),(18,.i (i+1:Nat))]) ?_ (by simp);exact zr _ ⟨by omega,by simp;omega,Qd (by decide) y0 _,Qg y1 _,Qd (by decide) y2 _⟩ (by omega)
 have zp:i=T:=by simp at y4;omega
 subst zp;rw[Cl]at *
 have yc:(y_ i).map (λk=>E5 (Qw l k))=Uw i l:=by unfold Uw;rfl
 rw[yc]at *;refine Wn 1 g1 2 g2 ?_
 have zz:=x01 i l;have e0:∀Y,((H2.set 1 AObj.dead).set 2 Y)[0]?=some (AObj.vars [AV.nils]):=λY=>Qd (by decide) (Qd (by decide) g0 _) _;have yd:∀Y hh,((H2.set 1 AObj.dead).set 2 Y)[0]'hh=AObj.vars [AV.nils]:=λY hh=>by have:=e0 Y;rw[zP hh]at this;exact Option.some.inj this
 have e2:∀Y,((H2.set 1 AObj.dead).set 2 Y)[2]?=some Y:=λY=>Qg (Qd (by decide) g2 _) _;have e3:∀Y Z,(((H2.set 1 AObj.dead).set 2 Y).set 0 Z)[0]?=some Z:=λY Z=>Qg (e0 Y) _;simp[zz];rw[zZ (by simp[zz])];repeat(refine s_ ?_;simp[e0,yd,e2,e3])
 unfold Uw;rw[vV]
end
section
open Go Go.Proofs Go.Maps Go.RowKit
def Xr(a:Aut)(cl:List Nat)(s:Int)(j t:Nat):List Prd:=(((Wa a s).take j).filter λm=>decide (clD cl m=t)).map (·.on)
def Ko(ks:List Nat)(t:Nat):List Nat:=if t∈ks then ks else ks++[t]
def Z3(a:Aut)(cl:List Nat)(s:Int)(j:Nat):List Nat:=((Wa a s).take j).foldl (λks m=>Ko ks (clD cl m)) []
def j1h(a:Aut)(cl:List Nat)(s:Int)(t:Nat):Xr a cl s (Wa a s).length t=P2 a cl s t:=by simp[Xr,P2]
def q1u(a:Aut)(cl:List Nat)(s:Int){j:Nat}(h:j<(Wa a s).length):Xr a cl s (j+1)=λt=>if t=clD cl (Wa a s)[j]then Xr a cl s j (clD cl (Wa a s)[j])++[(Wa a s)[j].on]else Xr a cl s j t:=by
 funext t;unfold Xr;rw[zY h,List.filter_append,xA,List.filter_cons,List.filter_nil];by_cases e:t=clD cl (Wa a s)[j]
 ·subst e;simp
 rw[if_neg e,if_neg (by simpa using λk=>e k.symm)];simp
def y1k(a:Aut)(cl:List Nat)(s:Int):Z3 a cl s 0=[]:=by simp[Z3]
def d07(a:Aut)(cl:List Nat)(s:Int){j:Nat}(h:j<(Wa a s).length):Z3 a cl s (j+1)=Ko (Z3 a cl s j) (clD cl (Wa a s)[j]):=by unfold Z3;rw[zY h,wJ];rfl
def x0j{ks:List Nat}{t u:Nat}:u∈Ko ks t↔u∈ks\/u=t:=by
 unfold Ko;split
 ·rename_i h;exact⟨.inl,λk=>k.elim id (λe=>e▸h)⟩
 simp
def v2e{ks:List Nat}{t:Nat}(h:ks.Nodup):(Ko ks t).Nodup:=by
 unfold Ko;split
 ·exact h
 rename_i hn;rw[vD];refine⟨h,by simp,λx hx y hy e=>hn ?_⟩;rw[zV]at hy;rw[<-hy,<-e];exact hx
def q13(cl:List Nat):∀(l:List Mv) (ks:List Nat) (t:Nat),t∈l.foldl (λks m=>Ko ks (clD cl m)) ks↔t∈ks\/∃m∈l,clD cl m=t
 |[],ks,t=>by simp
 |m::l,ks,t=>by
  rw[xX,q13 cl l,x0j];simp only[yO];constructor
  ·rintro((h|rfl)|⟨m',h1,h2⟩)
   ·exact .inl h
   ·exact .inr ⟨m,.inl rfl,rfl⟩
   exact .inr ⟨m',.inr h1,h2⟩
  rintro(h|⟨m',rfl|h1,h2⟩)
  ·exact .inl (.inl h)
  ·exact .inl (.inr h2.symm)
  exact .inr ⟨m',h1,h2⟩
def j2e(cl:List Nat):∀(l:List Mv) (ks:List Nat),ks.Nodup->(l.foldl (λks m=>Ko ks (clD cl m)) ks).Nodup
 |[],_,h=>h
 |m::l,ks,h=>j2e cl l _ (v2e h)
def Vn{a:Aut}{cl:List Nat}{s:Int}{j t:Nat}:t∈Z3 a cl s j↔∃m∈(Wa a s).take j,clD cl m=t:=by unfold Z3;rw[q13];simp
def w2r(a:Aut)(cl:List Nat)(s:Int)(j:Nat):(Z3 a cl s j).Nodup:=j2e cl _ _ List.nodup_nil
def v13{a:Aut}{cl:List Nat}{s:Int}{j t:Nat}(h:t∉Z3 a cl s j):Xr a cl s j t=[]:=by unfold Xr;rw[List.map_eq_nil_iff,List.filter_eq_nil_iff];intro m hm k;exact h (Vn.2 ⟨m,hm,by simpa using k⟩)
attribute [simp] g2g
def kvG(ks:List Nat)(gs:Nat->List Prd)(L:Nat->Nat):List (AV×AV):=ks.map λt:Nat=>(.i t,.sl (L t) 1 0 (gs t).length)
def v2m{ks:List Nat}(hn:ks.Nodup){gs:Nat->List Prd}{L:Nat->Nat}{j t np:Nat}(hj:ks[j]?=some t)(p:Prd):
  kvG ks (λu=>if u=t then gs t++[p]else gs u) (λu=>if u=t then np else L u)=(kvG ks gs L).set j (.i t,.sl np 1 0 ((gs t).length+1)):=by
 unfold kvG;refine xQ λi=>?_;obtain⟨z6,z1⟩:=zE.1 hj;by_cases hi:i<ks.length
 ·by_cases e:i=j
  ·subst e;rw[zS (by simpa using hi),z_,hj];simp
  rw[zH (Ne.symm e),z_,z_,zP hi];have:ks[i]≠t:=λk=>e ((ua hn).1 (k.trans z1.symm));simp[this]
 rw[xF (by simp;omega),xF (by simp;omega)]
def z2l{ks:List Nat}{gs:Nat->List Prd}{L:Nat->Nat}{t np:Nat}(ht:t∉ks)(h0:gs t=[])(p:Prd):
  kvG (ks++[t]) (λu=>if u=t then gs t++[p]else gs u) (λu=>if u=t then np else L u)=kvG ks gs L++[(.i t,.sl np 1 0 1)]:=by
 unfold kvG;rw[xA]
 congr 1
 ·refine xH λu hu=>?_;have:u≠t:=λe=>ht (e▸hu);simp[this]
 simp[h0]
structure MG (K:List AObj) (M:Nat) (ks:List Nat) (gs:Nat->List Prd) (L:Nat->Nat) (H:List AObj):Prop where
 map:H[M]?=some (.mv (kvG ks gs L))
 leaf:∀t∈ks,H[L t]?=some (.arr 70 1 ((gs t).map encP))
 inj:∀t t',t∈ks->t'∈ks->L t=L t'->t=t'
 ne:∀t∈ks,L t≠M
 geM:K.length<=M
 geL:∀t∈ks,K.length<=L t
 keep:∀j,j<K.length->H[j]? =K[j]?
def MG.grow{K:List AObj}{M:Nat}{ks:List Nat}{gs:Nat->List Prd}{L:Nat->Nat}{H:List AObj}(h:MG K M ks gs L H)(E:List AObj):MG K M ks gs L (H++E):=by have hm:=Qf h.map;have z1:=h.geM;exact⟨Qb h.map E,λt ht=>Qb (h.leaf t ht) E,h.inj,h.ne,h.geM,h.geL,λj hj=>by rw[zI (by omega)];exact h.keep j hj⟩
def MG.put {K:List AObj} {M:Nat} {ks:List Nat} {gs:Nat->List Prd} {L:Nat->Nat} {H H':List AObj} (h:MG K M ks gs L H) {t:Nat} {p:Prd} {np:Nat} (zb:H.length<=np)
  (z8:H'[M]?=some (.mv (kvG (Ko ks t) (λu=>if u=t then gs t++[p]else gs u) (λu=>if u=t then np else L u)))) (z6:H'[np]?=some (.arr 70 1 ((gs t++[p]).map encP)))
  (hk:∀j,j<H.length->j≠M->(t∈ks->j≠L t)->H'[j]? =H[j]?):MG K M (Ko ks t) (λu=>if u=t then gs t++[p]else gs u) (λu=>if u=t then np else L u) H':=by
 have hm:=Qf h.map;have hL:=λu hu=>Qf (h.leaf u hu);have z1:∀u,u∈Ko ks t->u≠t->u∈ks:=λu hu za=>(x0j.1 hu).resolve_right za;refine⟨z8,λu hu=>?_,λu v hu hv e=>?_,λu hu=>?_,h.geM,λu hu=>?_,λj hj=>?_⟩
 ·by_cases e:u=t
  ·subst e;simpa using z6
  simp only[e,if_false];have z7:=z1 u hu e;rw[hk _ (hL u z7) (h.ne u z7) (λht k=>e (h.inj u t z7 ht k))];exact h.leaf u z7
 ·by_cases e1:u=t
  ·by_cases e2:v=t
   ·rw[e1,e2]
   simp only[e1,e2,if_true,if_false]at e;have:=hL v (z1 v hv e2);omega
  by_cases e2:v=t
  ·simp only[e1,e2,if_true,if_false]at e;have:=hL u (z1 u hu e1);omega
  simp only[e1,e2,if_false]at e;exact h.inj u v (z1 u hu e1) (z1 v hv e2) e
 ·by_cases e:u=t
  ·simp only[e,if_true];omega
  simp only[e,if_false];exact h.ne u (z1 u hu e)
 ·have:=h.geM;by_cases e:u=t
  ·simp only[e,if_true];omega
  simp only[e,if_false];exact h.geL u (z1 u hu e)
 have zc:=h.geM;rw[hk j (by omega) (by omega) (λht e=>by have:=h.geL t ht;omega)];exact h.keep j hj
section
variable {nt k:Nat} {S:AS} {ops:Array Oper} {o:Oper} {R:AS->Prop}
def c0p{ks:List Nat}(hk:∀t∈ks,t<=1000000)(gs:Nat->List Prd)(L:Nat->Nat):∀p∈kvG ks gs L,isKey prog 3 p.1:=λp hp=>by obtain⟨t,ht,rfl⟩:=zU.1 hp;exact Ex ⟨by omega,by have:=hk t ht;omega⟩
def Jq {wr:Bool} (hw:Qt ops S o=some true) (hd:Wm nt o=true) {x ix:Operand} (ho:o.op= .lookup 236 x ix false) {id:Nat} (hx:rho S.sl x=some (.mref id)) {t:Nat} (z1:rho S.sl ix=some (.i t)) {ks:List Nat} {gs:Nat->List Prd} {L:Nat->Nat} (z6:S.hp[id]?=some (.mv (kvG ks gs L)))
  (hk:∀t∈ks,t<=1000000) (ht:t<=1000000) (hR:R (S.putD o.dst (if t∈ks then .sl (L t) 1 0 (gs t).length else .nils))):We prog nt k wr ops o S R:=by
 refine Cu tOk hw hd ho g2g rfl T87 Ug hx z1 z6 (Ex ⟨by omega,by omega⟩) (c0p hk gs L) (z:= .nils) (λw I=> .nils ..) (λj p hp he=>?_) (λz7=>?_)
 ·unfold kvG at hp;rw[z_]at hp;obtain⟨u,hu,rfl⟩:=zX.1 hp;have z8:u=t:=by simp at he;omega
  subst z8;rw[if_pos (zL hu)]at hR;exact hR
 have:t∉ks:=λh=>z7 _ (zU.2 ⟨t,h,rfl⟩) rfl;rw[if_neg this]at hR;exact hR
def Lr (hw:Qt ops S o=some true) (hd:Wm nt o=true) {x ix y:Operand} (ho:o.op= .mapUpdate 236 x ix y) {id:Nat} (hx:rho S.sl x=some (.mref id)) {t:Nat} (z6:rho S.sl ix=some (.i t)) {np n:Nat} (hy:rho S.sl y=some (.sl np 1 0 n)) {ks:List Nat} {gs:Nat->List Prd} {L:Nat->Nat} (z7:S.hp[id]?=some (.mv (kvG ks gs L)))
  (hk:∀t∈ks,t<=1000000) (ht:t<=1000000) (z8:ks.Nodup) (h0:t∉ks->gs t=[]) (p:Prd) (hn:n=(gs t).length+1) (hR:R (({ S with hp:=S.hp.set id (.mv (kvG (Ko ks t) (λu=>if u=t then gs t++[p]else gs u) (λu=>if u=t then np else L u))) }:AS).putD o.dst (.tup []))):We prog nt k true ops o S R:=by
 subst hn;refine F9 tOk hw hd ho g2g rfl Ug hx z6 hy z7 (Ex ⟨by omega,by omega⟩) (c0p hk gs L) (λj q hq he=>?_) (λza=>?_)
 ·unfold kvG at hq;rw[z_]at hq;obtain⟨u,hu,rfl⟩:=zX.1 hq;have zb:u=t:=by simp at he;omega
  subst zb;have ha:Ko ks u=ks:=by unfold Ko;rw[if_pos (zL hu)]
  rw[ha,v2m z8 hu p]at hR;exact hR
 have z1:t∉ks:=λh=>za _ (zU.2 ⟨t,h,rfl⟩) rfl;have ha:Ko ks t=ks++[t]:=by unfold Ko;rw[if_neg z1]
 rw[ha,z2l z1 (h0 z1) p]at hR;rw[h0 z1];exact hR
end
end
section
open Go Go.Proofs Go.Maps Go.RowKit
def kvX(ks:List Nat)(gs:Nat->List Prd)(L:Nat->Nat)(k:Nat):List (AV×AV):=ks.mapIdx λi (t:Nat)=>(.i t,if i<k then .list ((gs t).map encP)else .sl (L t) 1 0 (gs t).length)
def j1w(ks:List Nat)(gs:Nat->List Prd)(L:Nat->Nat):kvX ks gs L 0=kvG ks gs L:=by unfold kvX kvG;refine xQ λi=>?_;rw[vR,z_];cases ks[i]? <;>simp
def x21(ks:List Nat)(gs:Nat->List Prd)(L:Nat->Nat):kvX ks gs L ks.length=ks.map λt:Nat=>(.i t,.list ((gs t).map encP)):=by
 unfold kvX;refine xQ λi=>?_;rw[vR,z_];by_cases h:i<ks.length
 ·rw[zP h];simp[h]
 rw[xF (by omega)];simp
def j1y{ks:List Nat}(hn:ks.Nodup){gs:Nat->List Prd}{L:Nat->Nat}(z1:∀t t',t∈ks->t'∈ks->L t=L t'->t=t'){k t:Nat}(hk:ks[k]?=some t):
  (kvX ks gs L k).map (λp=>(p.1,p.2.fz (L t) 1 ((gs t).map encP)))=kvX ks gs L (k+1):=by
 obtain⟨z7,z6⟩:=zE.1 hk;unfold kvX;refine xQ λi=>?_;rw[z_,vR,vR];by_cases h:i<ks.length
 ·rw[zP h];simp only[Option.map_some];by_cases e:i=k
  ·subst e;rw[z6,if_neg (by omega),if_pos (by omega),AV.fz,if_pos ⟨rfl,rfl,by simp⟩];simp[zZ]
  by_cases h2:i<k
  ·rw[if_pos h2,if_pos (by omega)];simp[AV.fz]
  rw[if_neg h2,if_neg (by omega),AV.fz,if_neg];rintro⟨e2,_⟩;have:=z1 _ _ (zT h) (zL hk) e2;exact e ((ua hn).1 (this.trans z6.symm))
 rw[xF (by omega)];simp
section
variable {P:Program} [Env P] {nt kk:Nat} {cd:Code} {Q:Exit->AS->Prop}
def MG.freeze {M:Nat} {ks:List Nat} {gs:Nat->List Prd} {L:Nat->Nat} {sl:List (Nat×AV)} (hn:ks.Nodup) (z6:∀t t',t∈ks->t'∈ks->L t=L t'->t=t') (z8:∀t∈ks,L t≠M)
  (za:∀t∈ks,sl.map (λp=>(p.1,p.2.fz (L t) 1 ((gs t).map encP)))=sl):∀(d k:Nat) (H:List AObj),k+d=ks.length->H[M]?=some (.mv (kvX ks gs L k))->(∀i t,k<=i->ks[i]?=some t->H[L t]?=some (.arr 70 1 ((gs t).map encP)))->
  (∀H',H'[M]?=some (.mv (kvX ks gs L ks.length))->H'.length=H.length->(∀j,j<H.length->j≠M->(∀t∈ks,j≠L t)->H'[j]? =H[j]?)->AWP P nt kk cd Q ⟨sl,H'⟩)->AWP P nt kk cd Q ⟨sl,H⟩
 |0,k,H,hd,hm,hl,h=>by
  have:k=ks.length:=by omega
  subst this;exact h H hm rfl λ_ _ _ _=>rfl
 |d+1,k,H,hd,hm,hl,h=>by
  have zb:k<ks.length:=by omega
  have hk:ks[k]?=some ks[k]:=zP zb;have z1:=zT zb;generalize ks[k]=t at *
  have zf:=hl k t (zW _) hk;have zg:=Qf hm;refine Iz (L t) zf M hm (Ne.symm (z8 t z1)) rfl ?_;rw[za t z1,AObj.fz,j1y hn z6 hk];refine MG.freeze hn z6 z8 za d (k+1) _ (by omega) (zS (by simpa using zg)) (λi u hi hu=>?_) λH' zh z7 zi=>h H' zh (by simpa using z7) λj hj zc zd=>?_
  ·have ze:=zL hu;rw[zH (Ne.symm (z8 u ze)),zH (λe2=>?_)]
   ·exact hl i u (by omega) hu
   have e3:=z6 t u z1 ze e2;subst e3;obtain⟨h1,h2⟩:=zE.1 hk;obtain⟨h3,h4⟩:=zE.1 hu;have:=(ua hn).1 (h2.trans h4.symm);omega
  rw[zi j (by simpa using hj) zc zd,zH (Ne.symm zc),zH (Ne.symm (zd t z1))]
end
end
def z0n{o:List Nat}{c:Nat}(h:c∈o):∃i,F6 o c=i/\o[i]?=some c/\∀j,j<i->o[j]? ≠some c:=by
 unfold F6;cases hf:o.findIdx? λd=>decide (d=c)with
 |none=>rw[vY]at hf;have:=hf c h;simp at this
 |some i=>rw[List.findIdx?_eq_some_iff_getElem]at hf;obtain⟨h1,h2,h3⟩:=hf;refine⟨i,rfl,by rw[zP h1];simpa using h2,λj hj e=>?_⟩;obtain⟨hl,e2⟩:=zE.1 e;have:=h3 j hj;rw[e2]at this;simp at this
def v0w{o:List Nat}{c:Nat}(h:c∈o)(r:List Nat):F6 (o++r) c=F6 o c:=by
 obtain⟨i,e,h1,h2⟩:=z0n h;obtain⟨k,e',h3,h4⟩:=z0n (o:=o++r) (xB r h);rw[e,e'];have z1:=W6 h1;rcases Nat.lt_trichotomy i k with hl|hl|hl
 ·have:=h4 i hl;rw[zI z1]at this;exact absurd h1 this
 ·exact hl.symm
 rw[zI (by omega)]at h3;exact absurd h3 (h2 k hl)
def f0q{o:List Nat}{c:Nat}(h:c∉o):F6 (o++[c]) c=o.length:=by
 obtain⟨k,e',h3,h4⟩:=z0n (o:=o++[c]) (c:=c) (by simp);rw[e'];have hk:=W6 h3;simp at hk;by_cases hl:k<o.length
 ·rw[zI hl]at h3;exact absurd (zL h3) h
 omega
def d1i{o:List Nat}{c d:Nat}(h:c∈o):F6 (D0 o d) c=F6 o c:=by obtain⟨r,e,_⟩:=Gs o d;rw[e,v0w h]
def H4{o:List Nat}{l:List Mv}{j:Nat}(h:j<l.length):Wh o (l.take (j+1))=D0 (Wh o (l.take j)) l[j].dst.toNat:=by unfold Wh;rw[zY h,wJ];rfl
def u0w{o:List Nat}{l:List Mv}{m:Mv}(h:m∈l):m.dst.toNat∈Wh o l:=by
 induction l generalizing o with
 |nil=>cases h
 |cons x l ih=>
  have pre:∀(l:List Mv) (o:List Nat) (c:Nat),c∈o->c∈Wh o l:=by
   intro l;induction l with
   |nil=>intro o c hc;exact hc
   |cons y l ih2=>intro o c hc;refine ih2 (D0 o y.dst.toNat) c ?_;obtain⟨r,e,_⟩:=Gs o y.dst.toNat;rw[e];exact xB _ hc
  rcases yO.1 h with rfl|h
  ·exact pre l _ _ (x0h _ _)
  exact ih h
def Dp(o:List Nat)(l:List Mv):∃r,Wh o l=o++r:=by
 induction l generalizing o with
 |nil=>exact⟨[],by simp[Wh]⟩
 |cons x l ih=>obtain⟨r,e⟩:=ih (D0 o x.dst.toNat);obtain⟨r',e',_⟩:=Gs o x.dst.toNat;refine⟨r'++r,?_⟩;have:Wh o (x::l)=Wh (D0 o x.dst.toNat) l:=rfl;rw[this,e,e',xU]
def qMv(o:List Nat)(l:List Mv)(n j:Nat):List Mv:=(l.take j).map λm=>⟨n,(F6 (Wh o (l.take j)) m.dst.toNat:Nat),m.on⟩
def v0g(o:List Nat)(l:List Mv)(n:Nat):qMv o l n 0=[]:=by simp[qMv]
def z2h(o:List Nat)(l:List Mv)(n j:Nat):(qMv o l n j).length<=l.length:=by unfold qMv;simp;omega
def f1a(o:List Nat)(l:List Mv)(n:Nat){j:Nat}(h:j<l.length):
  qMv o l n (j+1)=qMv o l n j++[⟨n,(F6 (D0 (Wh o (l.take j)) l[j].dst.toNat) l[j].dst.toNat:Nat),l[j].on⟩]:=by
 unfold qMv;rw[H4 h,zY h,xA]
 congr 1
 refine xH λm hm=>?_;rw[d1i (u0w hm)]
def w21(a:Aut){o:List Nat}{n:Nat}{c:Nat}(h:o[n]?=some c):qMv o (Ym a c) n (Ym a c).length=mvN a (Wh o (Ym a c)) n:=by
 unfold qMv mvN;rw[yR];obtain⟨r,e⟩:=Dp o (Ym a c);have:(Wh o (Ym a c)).getD n 0=c:=by rw[e,yV,zI (W6 h),h];rfl
 rw[this]
structure QI (a:Aut) (i:Nat) (o:List Nat):Prop where
 nd:o.Nodup
 cl:∀c∈o,G9 a c
 le:i<=o.length
 bfs:Y3 a (a.fin.length+1 - i) i o=Ur a
 done:∀(j c:Nat),j<i->o[j]?=some c->∀m∈Ym a c,m.dst.toNat∈o
def QI.zero{a:Aut}(ha:Dfa a):QI a 0 [Wt a 0]:=
 ⟨by simp,λc hc=>by rw[zV.1 hc];exact Ac ha ha.zero,by simp,rfl,λj c hj=>by omega⟩
def QI.len{a:Aut}(ha:Dfa a){i:Nat}{o:List Nat}(h:QI a i o):o.length<=a.fin.length:=Cq ha h.nd h.cl
def QI.step{a:Aut}(ha:Dfa a){i:Nat}{o:List Nat}(h:QI a i o){c:Nat}(hc:o[i]?=some c):QI a (i+1) (Wh o (Ym a c)):=by
 have hl:=h.len ha;have hi:=W6 hc;obtain⟨⟨r,h1,h2⟩,h3,h4⟩:=Yu (Ym a c) o h.nd;have z1:=h.cl c (zL hc);refine⟨h3,λd hd=>?_,by rw[h1,yP];omega,?_,λj d hj hd m hm=>?_⟩
 ·rw[h1]at hd;rcases yB.1 hd with hd|hd
  ·exact h.cl d hd
  obtain⟨m,hm,e⟩:=h2 d hd;obtain⟨x,_,e2,_,e4,_⟩:=Um ha z1 hm;rw[e,e2];simpa using e4
 ·have:=h.bfs;rw[show a.fin.length+1 - i=(a.fin.length+1 - (i+1))+1 by omega,Y3,hc]at this;exact this
 rw[h1,zI (by omega)]at hd;by_cases e:j=i
 ·subst e;rw[hc]at hd;cases hd;exact h4 m hm
 rw[h1];exact xB _ (h.done j d (by omega) hd m hm)
def QI.fin{a:Aut}(ha:Dfa a){i:Nat}{o:List Nat}(h:QI a i o)(hi:i=o.length):o=Ur a:=by have hl:=h.len ha;have:=h.bfs;rw[show a.fin.length+1 - i=(a.fin.length - i)+1 by omega,Y3,xF (by omega)]at this;exact this
def qM(a:Aut)(i:Nat)(o:List Nat):List Mv:=(y_ i).flatMap (mvN a o)
def y1y(a:Aut)(o:List Nat):qM a 0 o=[]:=by simp[qM]
def x2r{a:Aut}{i:Nat}{o:List Nat}(h:QI a i o){c:Nat}(hc:o[i]?=some c):qM a (i+1) (Wh o (Ym a c))=qM a i o++qMv o (Ym a c) i (Ym a c).length:=by
 rw[w21 a hc];unfold qM;rw[vz,wS]
 congr 1
 ·rw[tf,tf]
  congr 1
  refine xH λj hj=>?_;have z1:=xD.1 hj;have z6:j<o.length:=xY z1 h.le;obtain⟨r,e⟩:=Dp o (Ym a c);have g1:(Wh o (Ym a c)).getD j 0=o.getD j 0:=by rw[e,yV,yV,zI z6]
  unfold mvN;rw[g1];refine xH λm hm=>?_;have hg:o[j]?=some (o.getD j 0):=by simp[yV,z6]
  rw[e,v0w (h.done j _ z1 hg m hm)]
 simp
def qF(a:Aut)(o:List Nat):List Bool:=o.map λc=>a.fin.getD (Tp a c) false
def w2n(a:Aut){o:List Nat}{i:Nat}{c:Nat}(l:List Mv)(h:o[i]?=some c):qF a ((Wh o l).take (i+1))=qF a (o.take i)++[a.fin.getD (Tp a c) false]:=by obtain⟨r,e⟩:=Dp o l;have hi:=W6 h;rw[e,List.take_append_of_le_length (by omega)];obtain⟨_,rfl⟩:=zE.1 h;rw[zY hi];unfold qF;rw[xA,xR,wT]
def U9(o:List Nat):Wh o []=o:=rfl
def k0u(o:List Nat)(l:List Mv){n:Nat}(h:l.length<=n):(Wh o l).length<=o.length+n:=by
 have key:∀(l:List Mv) (o:List Nat),(Wh o l).length<=o.length+l.length:=by
  intro l;induction l with
  |nil=>intro o;simp[Wh]
  |cons x l ih=>
   intro o;have h1:=ih (D0 o x.dst.toNat);have h2:(D0 o x.dst.toNat).length<=o.length+1:=by unfold D0;split<;>simp
   have h3:Wh o (x::l)=Wh (D0 o x.dst.toNat) l:=rfl;rw[h3,xI];omega
 have:=key l o;omega
def k28(a:Aut):qF a []=[]:=rfl
def q2m(a:Aut)(o:List Nat):(qF a o).length=o.length:=by simp[qF]
def u25{a:Aut}(ha:Dfa a){i:Nat}{o:List Nat}(h:QI a i o):(qM a i o).length<=600000:=by
 have hl:=h.len ha;have hf:=ha.ok.fin;have hm:=ha.ok.mvs;have key:∀j,j<=i->((y_ j).flatMap (mvN a o)).length<=j * 2048:=by
  intro j;induction j with
  |zero=>intro _;simp
  |succ j ih=>
   intro hj;rw[vz,wS,yP];have h1:=ih (by omega);have h2:(mvN a o j).length<=2048:=by
    have z1:j<o.length:=xY hj h.le;have hc:=h.cl _ (zT z1);have e:o.getD j 0=o[j]:=by simp[yV,z1]
    have h3:=Cc ha hc;have h4:(Wa a (Tp a o[j]:Nat)).length<=a.mv.length:=xN _ _;unfold mvN;rw[yL,e];omega
   simp only[List.flatMap_cons,List.flatMap_nil,xO];omega
 have:=key i (zW _);have:=h.le;unfold qM;omega
def x2h{a:Aut}(ha:Dfa a){i:Nat}{o:List Nat}(h:QI a i o)(hi:i=o.length):Q4 a=⟨a.types,qF a (o.take i),qM a i o⟩:=by have:=h.fin ha hi;rw[hi,yR];unfold Q4 Ae qF qM;rw[<-this]
section
open Go Go.Proofs
def c1a(l:List Nat)(c:Nat):Nq (λm:Int=>m==(c:Int)) (Yl l)=match l.findIdx? λd=>decide (d=c)with|some i=>(i:Int)|none=> -1:=by
 have e:(Yl l).findIdx? (λm:Int=>m==(c:Int))=l.findIdx? λd=>decide (d=c):=by
  rw[tS]
  congr 1
  funext x;simp only[Function.comp];rw[wB];simp;omega
 unfold Nq;rw[e];cases l.findIdx? λd=>decide (d=c)<;>rfl
def g1j{l:List Nat}{c:Nat}(h:c∈l):Nq (λm:Int=>m==(c:Int)) (Yl l)=(F6 l c:Nat):=by
 rw[c1a];unfold F6;cases hf:l.findIdx? λd=>decide (d=c)with
 |none=>rw[vY]at hf;have:=hf c h;simp at this
 |some i=>rfl
end
section
open Go Go.Proofs Go.Maps Go.RowKit
def kvO(o:List Nat):List (AV×AV):=o.zipIdx.map λx=>(AV.i (x.1:Nat),AV.i (x.2:Nat))
def mpO(o:List Nat):AObj:= .mp (kvO o)
def z0u{o:List Nat}{j:Nat}{p:AV×AV}(h:(kvO o)[j]?=some p):∃c,o[j]?=some c/\p=(AV.i (c:Nat),AV.i (j:Nat)):=by unfold kvO at h;rw[z_,tF]at h;obtain⟨x,hx,rfl⟩:=zX.1 h;obtain⟨c,hc,rfl⟩:=zX.1 hx;exact⟨c,hc,by simp⟩
def k1z(o:List Nat)(c:Nat):kvO (o++[c])=kvO o++[(AV.i (c:Nat),AV.i (o.length:Nat))]:=by unfold kvO;rw[List.zipIdx_append,xA];simp
def x2x{o:List Nat}{p:AV×AV}(h:p∈kvO o):∃c∈o,p.1=AV.i (c:Nat):=by obtain⟨j,hj⟩:=yQ.1 h;obtain⟨c,hc,rfl⟩:=z0u hj;exact⟨c,zL hc,rfl⟩
def f0n{o:List Nat}(hb:∀c∈o,c<=1000000):∀p∈kvO o,isKey prog 3 p.1:=λp hp=>by obtain⟨c,hc,e⟩:=x2x hp;rw[e];exact Ex ⟨by omega,by have:=hb c hc;omega⟩
section
variable {nt k:Nat} {S:AS} {ops:Array Oper} {o:Oper} {R:AS->Prop}
def w0z {wr:Bool} (hw:Qt ops S o=some true) (hd:Wm nt o=true) {x ix:Operand} (ho:o.op= .lookup 113 x ix true) {id:Nat} (hx:rho S.sl x=some (.mref id)) {c:Nat} (z6:rho S.sl ix=some (.i (c:Nat))) {l:List Nat} (z7:S.hp[id]?=some (mpO l)) (hn:l.Nodup) (hb:∀c∈l,c<=1000000) (hc:c<=1000000)
  (hR:R (S.putD o.dst (.tup [.i ((if c∈l then F6 l c else 0:Nat)),.bool (decide (c∈l))]))):We prog nt k wr ops o S R:=by
 refine Up tOk hw hd ho d2i rfl T3 Ug hx z6 z7 (Ex ⟨by omega,by omega⟩) (f0n hb) (z:= .i 0) rfl (λj p hp he=>?_) (λz8=>?_)
 ·obtain⟨c',z1,rfl⟩:=z0u hp;have za:c'=c:=by simp at he;omega
  subst za;have hm:=zL z1;rw[if_pos hm,Xt hn z1]at hR;simpa[hm]using hR
 have hm:c∉l:=λh=>by
  obtain⟨j,hj⟩:=yQ.1 h;have zb:=W6 hj;have:(kvO l)[j]?=some (AV.i (c:Nat),AV.i (j:Nat)):=by unfold kvO;rw[z_,tF,hj];simp
  exact z8 _ (zL this) rfl
 rw[if_neg hm]at hR;simpa[hm]using hR
def j0z (hw:Qt ops S o=some true) (hd:Wm nt o=true) {x ix y:Operand} (ho:o.op= .mapUpdate 113 x ix y) {id:Nat} (hx:rho S.sl x=some (.mref id)) {c:Nat} (z1:rho S.sl ix=some (.i (c:Nat))) {l:List Nat} (hy:rho S.sl y=some (.i (l.length:Nat))) (z6:S.hp[id]?=some (mpO l)) (hb:∀c∈l,c<=1000000) (hc:c<=1000000) (hn:c∉l)
  (hR:R (({ S with hp:=S.hp.set id (mpO (l++[c])) }:AS).putD o.dst (.tup []))):We prog nt k true ops o S R:=by
 refine Es tOk hw hd ho d2i rfl Ug hx z1 hy (by simp[AV.pure]) z6 (Ex ⟨by omega,by omega⟩) (f0n hb) (λj p hp he=>?_) (λza=>?_)
 ·obtain⟨c',z7,rfl⟩:=z0u hp;have z8:c'=c:=by simp at he;omega
  subst z8;exact absurd (zL z7) hn
 have:mpO (l++[c])= .mp (kvO l++[(AV.i (c:Nat),AV.i (l.length:Nat))]):=by unfold mpO;rw[k1z]
 rw[this]at hR;exact hR
def g03 (hw:Qt ops S o=some true) (hd:Wm nt o=true) {x ix y:Operand} (ho:o.op= .insert 113 x ix y) {id:Nat} (hx:rho S.sl x=some (.mref id)) {c:Nat} (z1:rho S.sl ix=some (.i (c:Nat))) (hy:rho S.sl y=some (.i 0)) (z6:S.hp[id]?=some (.mp [])) (hc:c<=1000000)
  (hR:R (({ S with hp:=S.hp.set id (mpO [c]) }:AS).putD o.dst (.tup []))):We prog nt k true ops o S R:=by
 refine Of tOk hw hd ho d2i rfl Ug hx z1 hy (by simp[AV.pure]) z6 (Ex ⟨by omega,by omega⟩) (λp hp=>by cases hp) (λj p hp he=>by cases hp) (λz7=>?_);exact hR
end
end
end Go.Abs
namespace Go.Proofs
open Go.Shelf
def Tryz.sortMv_ren:Go.Shelf.Ren:=⟨λ|6=>180|15=>199|14=>229|28=>244|29=>245|20=>271|21=>272|22=>273|23=>274|24=>275|25=>276|26=>277|27=>278|46=>309|47=>292|48=>293|49=>310|50=>311|57=>323|n=>n,λ|22=>23|24=>73|25=>238|3=>3|39=>189|0=>0|53=>255|55=>258|4=>4|46=>291|45=>290|50=>112|5=>5|9=>9|66=>327|70=>331|76=>349|77=>350|n=>n,λ|n=>n⟩
def Tryz.sortMv:Go.Proofs.SlLaysF0.n6 prog Tryz.sortMv_ren:={
 mixed:=by kernel_rfl
 f6:=⟨Tryz.f180.name,by decide,func180.trans (congrArg some (by kernel_rfl))⟩
 f14:=⟨Tryz.f229.name,by decide,func229.trans (congrArg some (by kernel_rfl))⟩
 f15:=func199.trans (congrArg some (by kernel_rfl))
 f20:=⟨Tryz.f271.name,by decide,func271.trans (congrArg some (by kernel_rfl))⟩
 f21:=⟨Tryz.f272.name,by decide,func272.trans (congrArg some (by kernel_rfl))⟩
 f22:=⟨Tryz.f273.name,by decide,func273.trans (congrArg some (by kernel_rfl))⟩
 f23:=⟨Tryz.f274.name,by decide,func274.trans (congrArg some (by kernel_rfl))⟩
 f24:=⟨Tryz.f275.name,by decide,func275.trans (congrArg some (by kernel_rfl))⟩
 f25:=⟨Tryz.f276.name,by decide,func276.trans (congrArg some (by kernel_rfl))⟩
 f26:=⟨Tryz.f277.name,by decide,func277.trans (congrArg some (by kernel_rfl))⟩
 f27:=⟨Tryz.f278.name,by decide,func278.trans (congrArg some (by kernel_rfl))⟩
 f28:=func244.trans (congrArg some (by kernel_rfl))
 f29:=func245.trans (congrArg some (by kernel_rfl))
 f46:=⟨Tryz.f309.name,by decide,func309.trans (congrArg some (by kernel_rfl))⟩
 f47:=func292.trans (congrArg some (by kernel_rfl))
 f48:=func293.trans (congrArg some (by kernel_rfl))
 f49:=⟨Tryz.f310.name,by decide,func310.trans (congrArg some (by kernel_rfl))⟩
 f50:=⟨Tryz.f311.name,by decide,func311.trans (congrArg some (by kernel_rfl))⟩
 f57:=⟨Tryz.f323.name,by decide,func323.trans (congrArg some (by kernel_rfl))⟩
 t0:=underlying0
 a0:=isAgg0
 z0:=sizeOf0
 v0:=zeroValue0
 t3:=underlying3
 a3:=isAgg3
 z3:=sizeOf3
 v3:=zeroValue3
 t4:=underlying4
 a4:=isAgg4
 z4:=sizeOf4
 v4:=zeroValue4
 t5:=underlying5
 a5:=isAgg5
 z5:=sizeOf5
 v5:=zeroValue5
 t9:=underlying9
 a9:=isAgg9
 z9:=sizeOf9
 v9:=zeroValue9
 t22:=underlying23
 a22:=isAgg23
 z22:=sizeOf23
 v22:=zeroValue23
 t25:=underlying238
 a25:=isAgg238
 z25:=sizeOf238
 v25:=zeroValue238
 t39:=underlying189
 a39:=isAgg189
 z39:=sizeOf189
 v39:=zeroValue189
 t45:=underlying290
 a45:=isAgg290
 z45:=sizeOf290
 v45:=zeroValue290
 t46:=underlying291
 a46:=isAgg291
 z46:=sizeOf291
 v46:=zeroValue291
 t50:=underlying112
 a50:=isAgg112
 z50:=sizeOf112
 v50:=zeroValue112
 t53:=underlying255
 a53:=isAgg255
 z53:=sizeOf255
 v53:=zeroValue255
 t55:=underlying258
 a55:=isAgg258
 z55:=sizeOf258
 v55:=zeroValue258
 t66:=underlying327
 a66:=isAgg327
 z66:=sizeOf327
 v66:=zeroValue327
 t70:=underlying331
 a70:=isAgg331
 z70:=sizeOf331
 v70:=zeroValue331
 t76:=underlying349
 a76:=isAgg349
 z76:=sizeOf349
 v76:=zeroValue349
 t77:=underlying350
 a77:=isAgg350
 z77:=sizeOf350
 v77:=zeroValue350 }
end Go.Proofs
namespace Go.Abs
section
open Go Go.Proofs Go.RowKit Go.Shelf Go.Lib Go.Sort
def ltM(m k:Mv):Bool:=Nf (kyM m) (kyM k)
def g2q(m k:Mv):Int:=if ltM m k=true then -1 else 1
def gdM(T:Nat)(m:Mv):Prop:=PWf T m.on/\Wp m.on=false/\∀s∈m.on,s.length<=1000000000
attribute [local irreducible] E4 Qy Qk K0
def w26(T:Nat)(hT:T<=16)(m k:Mv)(hm:gdM T m)(hk:gdM T k):PC prog 181 [encMv m,encMv k] (λr=>r= .i (g2q m k)):=by
 refine pcB func181 results181 ntmps181 ?_;simp only[Qe];simp only[encMv];have h1:=z0f hm.1;have h2:=z0f hk.1;rw[hm.2.1]at h1;rw[hk.2.1]at h2;have h3:=k20 m.on k.on;have hR:g2q m k=if K0 (Qk m.on) (Qk k.on)=true then -1 else 1:=by rw[h3];rfl
 rw[hR];repeat(refine s_ ?_;simp)
 refine pcL (A4 T m.on m.on hm.1 hm.1 hm.2.2 hm.2.2 (by omega)) ?_;simp;rw[h1];simp[He];repeat(refine s_ ?_;simp)
 refine pcL (A4 T k.on k.on hk.1 hk.1 hk.2.2 hk.2.2 (by omega)) ?_;simp;rw[h2];simp[He];repeat(refine s_ ?_;simp)
 refine pcL (k0f (Qk m.on) (Qk k.on)) ?_;simp;cases hb:K0 (Qk m.on) (Qk k.on)with
 |true=>refine Qv rfl ?_;repeat ((refine s_ ?_;simp))
 |false=>refine Qv rfl ?_;repeat(refine s_ ?_;simp)
def z1z{w:World}{I:Nat->Prop}{v:Value}{k:IntKind}{n:Int}(h:PVR w I v (.int k n)):v.oneCell'=true:=by cases h;rfl
def c1c{w:World}{I:Nat->Prop}{v:Value}{xs:List AV}(h:PVR w I v (.list xs)):v.oneCell'=true:=by cases h;rfl
def GdE(T:Nat)(w:World)(I:Nat->Prop)(x:List Value×Mv):Prop:=x.1.length=3/\(∀v∈x.1,v.oneCell'=true)/\gdM T x.2/\∀(j:Nat) (y:AV),(encMv x.2).cells[j]?=some y->∃v,x.1[j]?=some v/\PVR w I v y
abbrev MvE (T:Nat) (w:World) (I:Nat->Prop):={ x:List Value×Mv // GdE T w I x }
def g05{T:Nat}{w:World}{I:Nat->Prop}(x:MvE T w I):List Value:=x.1.1
def v27{T:Nat}{w:World}{I:Nat->Prop}(x y:MvE T w I):Int:=g2q x.1.2 y.1.2
def ltE{T:Nat}{w:World}{I:Nat->Prop}(x y:MvE T w I):ltOf v27 x y=ltM x.1.2 y.1.2:=by unfold ltOf v27 g2q;cases ltM x.1.2 y.1.2<;>rfl
def c2b{T:Nat}{w:World}{I:Nat->Prop}:SWO (ltOf (v27 (T:=T) (w:=w) (I:=I))) where
 irrefl x:=by rw[ltE,<-uI];intro h;exact I3.irr ((Th _ _).1 h)
 trans x y z h1 h2:=by rw[ltE]at *;exact(Th _ _).2 (((Th _ _).1 h1).trans ((Th _ _).1 h2))
 ntrans x y z h1 h2:=by
  rw[ltE]at *;rw[<-uI]at *;intro h
  have h3:=(Th _ _).1 h;have h4:¬I3 (kyM x.1.2).1 (kyM x.1.2).2 (kyM y.1.2).1 (kyM y.1.2).2:=λk=>h1 ((Th _ _).2 k);have h5:¬I3 (kyM y.1.2).1 (kyM y.1.2).2 (kyM z.1.2).1 (kyM z.1.2).2:=λk=>h2 ((Th _ _).2 k);unfold I3 at *;omega
def f1p(m:Mv):(encMv m).cells=[.i m.src,.i m.dst,.list (m.on.map encL)]:=rfl
def Gw{T:Nat}{w:World}{I:Nat->Prop}{l:List Mv}{F:Array Value}(hR:RowW w I 3 (l.map encMv) F)(hg:∀m∈l,gdM T m){i:Nat}(hi:i<l.length):GdE T w I ([F[i * 3]!,F[i * 3+1]!,F[i * 3+2]!],l[i]):=by
 have hx:(l.map encMv)[i]?=some (encMv l[i]):=by simp[hi]
 have c0:=hR.cell i _ hx 0 _ rfl;have c1:=hR.cell i _ hx 1 _ rfl;have c2:=hR.cell i _ hx 2 _ rfl;rw[Nat.add_zero]at c0;refine⟨rfl,λv hv=>?_,hg _ (zT hi),λj y hy=>?_⟩
 ·simp only[yO,List.not_mem_nil,or_false]at hv;rcases hv with rfl|rfl|rfl
  ·exact z1z c0
  ·exact z1z c1
  exact c1c c2
 rw[f1p]at hy
 match j,hy with
 |0,hy=>simp at hy;subst hy;exact⟨_,rfl,c0⟩
 |1,hy=>simp at hy;subst hy;exact⟨_,rfl,c1⟩
 |2,hy=>simp at hy;subst hy;exact⟨_,rfl,c2⟩
def v1d(T:Nat)(hT:T<=16)(H:List AObj)(p:Nat)(l:List Mv)(hp:H[p]?=some (.arr 73 3 (l.map encMv)))(hl:l.length<=1000000)(hg:∀m∈l,gdM T m):
  FC prog 180 [.sl p 3 0 l.length,.fn (.func 181) [] []] H
   (λr H'=>r= .tup []/\∃l':List Mv,l'.Perm l/\l'.Pairwise (λx y=>ltM y x=false)/\H'=H.set p (.arr 73 3 (l'.map encMv))):=by
 refine(w0b (xs:=l.map encMv) (R9 func180 rfl rfl) (by simp) hp [.func (.func 181) #[] #[]] (λw I m vs a b=>Hv _ w I m _ vs a b) (λzc=>∃l':List Mv,l'.Perm l/\l'.Pairwise (λx y=>ltM y x=false)/\zc=l'.map encMv) ?_ ?_).mono ?_
 ·intro w I b cap F hE hI zg hR hH hb hc;have zh:F.size=l.length * 3:=by have:=hR.size;simpa using this
  by_cases z6:l=[]
  ·subst z6;refine Calls.mono (AnyF.slices_SortFunc_none Tryz.sortMv (some ⟨b,0,none⟩) cap _ w) ?_;rintro e w' ⟨rfl,rfl⟩;refine⟨rfl,[],F,0,#[],⟨[],.refl _,.nil,rfl⟩,rfl,hR,?_⟩;rw[grow_empty];exact(putRow_self id w' b 0 F hH).symm
  have z8:0<l.length:=List.length_pos_iff.2 z6;have eg:∀args w,(callFunc 181 args).run prog w= .ok (.enter 181 args) w:=enters_of func181 (by kernel_rfl) rfl;let _:Inhabited (MvE T w I):=⟨⟨_,Gw hR hg z8⟩⟩
  obtain⟨dl,za⟩:∃dl:List (MvE T w I),dl=List.ofFn λi:Fin l.length=>(⟨_,Gw hR hg i.2⟩:MvE T w I):=⟨_,rfl⟩
  have z7:dl.length=l.length:=by rw[za];simp
  have zd:∀i (h:i<l.length),dl[i]?=some ⟨_,Gw hR hg h⟩:=λi h=>by rw[za];simp[h]
  have zi:dl.map (λx=>x.1.2)=l:=by
   refine xQ λi=>?_;rw[z_];by_cases h:i<l.length
   ·rw[zd i h,zP h];rfl
   rw[xF (by omega),xF (by omega)];rfl
  clear za;have zj:flatK g05 3 dl.toArray=F:=by
   refine ext_get! (by simp[z7,zh]) λt ht=>?_;have zk:t<dl.length * 3:=by simpa using ht
   rw[get_flatK _ _ _ _ (by simpa using zk)];have hi:t / 3<l.length:=by omega
   have e1:dl.toArray[t / 3]! =⟨_,Gw hR hg hi⟩:=by rw[getElem!_pos dl.toArray _ (by simp;omega)];have:=zd _ hi;obtain⟨h1,h2⟩:=zE.1 this;simpa using h2
   rw[e1];simp only[g05];have hm:t % 3=0\/t % 3=1\/t % 3=2:=by omega
   rcases hm with h|h|h<;>rw[h]
   ·have:t / 3 * 3=t:=by omega
    simp[this]
   ·have:t / 3 * 3+1=t:=by omega
    simp[this]
   have:t / 3 * 3+2=t:=by omega
   simp[this]
  have zl:HoldsK g05 3 w b 0 dl.toArray:=by unfold HoldsK;rw[zj];exact hH
  have zb:CmpLays prog 181 #[] g05 3 (v27 (T:=T) (w:=w) (I:=I)) b 0 dl.toArray.size w:=λq os dk hs x y=>by
   have hW:∀c,I c->(sortWorldK g05 3 w b 0 q dk os).heap[c]? =w.heap[c]? :=λc ze=>by have zm:=hI c ze;have zn:b≠c:=λe=>zg (e▸ze);simp only[sortWorldK,grow,putRowK,putRow,mapBlock,Sort.ahead];rw[Array.getElem?_append_left (by simpa using zm),Array.getElem?_modify,if_neg zn]
   have zf:∀z:MvE T w I,PVR w I (.agg (g05 z).toArray) (encMv z.1.2):=λz=>by
    refine .agg _ _ (by simp[g05,z.2.1]) λi v x' hv z1=>?_;obtain⟨v',h1,h2⟩:=z.2.2.2.2 i x' z1;have:v=v':=by simp only[g05,List.getElem?_toArray]at hv;rw[hv]at h1;exact Option.some.inj h1
    rw[this];exact h2
   refine(w26 T hT x.1.2 y.1.2 x.2.2.2.1 y.2.2.2.1).laid hE hI hW (by simp) λi v x' hv z1=>?_
   match i,hv,z1 with
   |0,hv,z1=>simp at hv z1;subst hv z1;exact zf x
   |1,hv,z1=>simp at hv z1;subst hv z1;exact zf y
  have:=AnyQ.slices_SortFunc Tryz.sortMv 3 isAgg73 sizeOf73 g05 (λx=>x.2.1) (λx v hv=>x.2.2.1 v hv) v27 c2b 181 #[] b 0 cap dl.toArray w eg zb zl hb (by simp;omega);rw[show(dl.toArray).size=l.length by simp[z7]]at this;refine Calls.mono this ?_;rintro e w' ⟨rfl,d',n,os,h1,h2,rfl⟩;obtain⟨s1,_,s3⟩:=h1;have hs:d'.toList.length=l.length:=by simpa[z7]using s1
  refine⟨rfl,(d'.toList.map (λx=>x.1.2)).map encMv,flatK g05 3 d',n,os,⟨d'.toList.map (λx=>x.1.2),?_,?_,rfl⟩,by simp[hs],⟨by simp,λx hx=>?_,λi x hx j y hy=>?_⟩,rfl⟩
  ·rw[show d'.extract 0 l.length=d' by simp[<-hs],show dl.toArray.extract 0 l.length=dl.toArray by simp[<-z7]]at s3;have:=(s3:d'.toList.Perm dl).map (λx=>x.1.2)
   rwa [zi]at this
  ·refine xS.2 (yU.2 λi j hi hj zo=>?_);have:=h2 i j (xP _) zo (by omega);rw[ltE,getElem!_pos d' i (by simpa using hi),getElem!_pos d' j (by simpa using hj)]at this;simpa using this
  ·obtain⟨z,_,rfl⟩:=zU.1 hx;rfl
  rw[z_,z_]at hx;obtain⟨z0,zp,rfl⟩:=zX.1 hx;obtain⟨z,hz,rfl⟩:=zX.1 zp;obtain⟨hi,rfl⟩:=zE.1 hz;have hj:j<3:=(zE.1 hy).1;have zq:i<d'.size:=by simpa using hi
  rw[get_flatK _ _ _ _ (by omega)];rw[show(i * 3+j) / 3=i by omega,show(i * 3+j) % 3=j by omega];rw[getElem!_pos d' i zq];obtain⟨v,h1,h2⟩:=d'[i].2.2.2.2 j y (by simpa using hy);have:(g05 d'[i])[j]! =v:=by unfold g05;rw[List.getElem!_eq_getElem?_getD,h1];rfl
  rw[this];exact h2
 ·rintro h;have z6:l=[]:=by
   cases l with
   |nil=>rfl
   |cons x r=>simp at h
  subst z6;exact⟨⟨[],.refl _,.nil,rfl⟩,λw=>AnyF.slices_SortFunc_none Tryz.sortMv none 0 _ w⟩
 rintro r H' ⟨rfl,zc,⟨l',h1,h2,rfl⟩,rfl⟩;exact⟨rfl,l',h1,h2,rfl⟩
end
def u28{T B:Nat}{l:List Prd}(h:∀i,(Qw l i).length<=B):∀s∈Uw T l,s.length<=B:=λs hs=>by unfold Uw at hs;obtain⟨i,_,rfl⟩:=zU.1 hs;exact yW (k1q _) (h i)
section
open Go Go.Proofs Go.Maps Go.RowKit
def v0r{l:List Nat}{i:Nat}(h:i<l.length):l.getD i 0=l[i]:=by simp[yV,h]
attribute [local irreducible] Wa E4 Tj Uw d1j Xr Z3 kvG
def Z4{α:Type}:∀(l:List α) (i:Nat) (x:α),l[i]?=some x->l.Perm (x::l.eraseIdx i)
 |[],i,x,h=>by simp at h
 |y::l,0,x,h=>by simp at h;subst h;simp
 |y::l,i+1,x,h=>by simp only[List.getElem?_cons_succ]at h;exact((Z4 l i x h).cons y).trans (List.Perm.swap x y _)
def y0h{a:Aut}(ha:OkA a)(cl:List Nat)(s:Int)(t:Nat):(P2 a cl s t).length<=2048:=by unfold P2;rw[yL];exact yW (xN _ _) (yW (Gz a s) ha.mvs)
def g1i(ks:List Nat)(t:Nat):(Ko ks t).length<=ks.length+1:=by
 unfold Ko;split
 ·omega
 simp
def c11(cl:List Nat):∀(l:List Mv) (ks:List Nat),(l.foldl (λks m=>Ko ks (clD cl m)) ks).length<=ks.length+l.length
 |[],ks=>by simp
 |m::l,ks=>by have h1:=c11 cl l (Ko ks (clD cl m));have h2:=g1i ks (clD cl m);simp only[xX,xI];omega
def Ml{a:Aut}(ha:OkA a)(cl:List Nat)(s:Int)(t i:Nat):(Qw (P2 a cl s t) i).length<=1000000:=by
 have h1:∀p∈P2 a cl s t,PCk a.types.toNat p:=λp hp=>by obtain⟨m,hm,rfl⟩:=zU.1 hp;exact(ha.mv m (Wz.1 (xT.1 hm).1).1).on
 have h2:=y0h ha cl s t;have:=Uz h1 i;omega
def d0r{x y:Mv}(h:ltM y x=false)(z1:kyM x≠kyM y):ltG kyM x y:=by
 unfold ltG;have h1:¬I3 (kyM y).1 (kyM y).2 (kyM x).1 (kyM x).2:=λk=>by have:ltM y x=true:=(Th _ _).2 k;rw[h]at this;cases this
 have h2:¬((kyM x).1=(kyM y).1/\(kyM x).2=(kyM y).2):=λk=>z1 (un k.1 k.2);unfold I3 at *;omega
def z1p(a:Aut)(ha:Dfa a)(cl:List Nat)(x6:cl.length=a.fin.length)(y3:∀c∈cl,c<=1000000)(s:Int)(hs:inS a s):PC prog 119 [Rc a,LI (Yl cl),.i s] (λr=>r= .list ((d1j a cl s).map encMv)):=by
 refine pcB func119 results119 ntmps119 ?_;simp only[Qe];simp only[Rc,Q3];have yi:=ha.ok.fin;have x7:=Gz a s;have x8:=ha.ok.mvs;have y4:=λm (hm:m∈Wa a s)=>ha.ok.mv m (Wz.1 hm).1;have zo:=X8 hs;have x9:=P7 hs;have yj:=hs.1;have yk:=hs.2;have yl:(Tj a).length=a.fin.length:=by unfold Tj;simp
 simp only[Yk]at zo;have zu:∀hh,(Tj a)[s.toNat]'hh= .list ((Wa a s).map encMv):=λhh=>by rw[zP hh]at zo;exact Option.some.inj zo
 repeat(refine s_ ?_;simp)
 refine W8 rfl rfl rfl ?_;simp;repeat(refine s_ ?_;simp[zo,zu,yj,yk,yl])
 refine d1b 1 rfl ?_;simp;obtain⟨K,hK⟩:∃K,K=[AObj.vars [.i a.types,.list (a.fin.map .bool),.list (a.mv.map encMv),.list (Tj a)]]:=⟨_,rfl⟩
 have ym:K[0]?=some (.vars [.i a.types,.list (a.fin.map .bool),.list (a.mv.map encMv),.list (Tj a)]):=by rw[hK];rfl
 refine Wb λZ hZ=>?_;have zG:MG K 1 (Z3 a cl s 0) (Xr a cl s 0) (λ_=>0) Z:=by rw[y1k];refine⟨by rw[hZ];unfold kvG;rfl,by simp,by simp,by simp,by rw[hK];simp,by simp,λj hj=>?_⟩;rw[hK]at hj;simp at hj;subst hj;rw[hZ,hK];rfl
 clear hZ;refine Qi (Qc (sl':=[(1,LI (Yl cl)),(3,.vptr 0 0),(6,.nils),(7,.mref 1),(18,.list ((Wa a s).map encMv)),(19,.i (Wa a s).length),(20,.i (0:Nat))]) ?_ (by simp));refine Qj (P:=prog) (F:=λ(u:Nat×(Nat->Nat)×List AObj)=>⟨[(1,LI (Yl cl)),(3,.vptr 0 0),(6,.nils),(7,.mref 1),(18,.list ((Wa a s).map encMv)),(19,.i (Wa a s).length),(20,.i u.1)],u.2.2⟩)
  (λu=>u.1<=(Wa a s).length/\MG K 1 (Z3 a cl s u.1) (Xr a cl s u.1) u.2.1 u.2.2) (λu=>(Wa a s).length - u.1) ?_ (0,λ_=>0,Z) ⟨xP _,zG⟩
 clear zG;clear Z;rintro⟨j,L,G⟩ ⟨hj,gG⟩ ih;simp only at hj gG ih |-;have za:=w2r a cl s j;have zp:∀t∈Z3 a cl s j,t<=1000000:=λt ht=>by
  obtain⟨m,hm,rfl⟩:=Vn.1 ht;unfold clD;have:=wd hm;by_cases h:m.dst.toNat<cl.length
  ·rw[v0r h];exact y3 _ (zT h)
  simp[yV,h]
 have yn:=λt (h:t∉Z3 a cl s j)=>v13 h;repeat(refine s_ ?_;simp)
 refine Qa rfl (λzv=>?_) (λyo=>?_)
 ·have z7:j<(Wa a s).length:=by simpa using zv
  have hw:=wz j (by omega);have zh:=d07 a cl s z7;have zq:=q1u a cl s z7;have y5:=y4 _ (zT z7);have y6:∀t,(Xr a cl s j t).length<=j:=λt=>by unfold Xr;rw[yL];refine yW (xN _ _) ?_;rw[wC];omega
  have zf:=λL' G'=>ih (j+1,L',G');simp only[zh,zq]at zf;clear zh zq;have y7:((Wa a s).map encMv)[j]?=some (encMv (Wa a s)[j]):=by simp[z7]
  have y8:∀hh,((Wa a s).map encMv)[j]'hh=encMv (Wa a s)[j]:=λhh=>by simp
  generalize (Wa a s)[j]=m at *;generalize Z3 a cl s j=ks at *;generalize Xr a cl s j=gs at *;simp only[encMv]at y7 y8
  repeat(refine s_ ?_;simp[y7,y8,z7])
  obtain⟨d,hd⟩:∃d:Nat,m.dst=d:=⟨m.dst.toNat,by have:=y5.dst.1;omega⟩
  have z8:d<cl.length:=by have:=y5.dst.2;omega
  have zw:clD cl m=cl[d]:=by unfold clD;rw[hd];exact v0r z8
  have zr:clD cl m<=1000000:=by rw[zw];exact y3 _ (zT z8)
  have yp:(Yl cl)[d]?=some ((clD cl m:Nat):Int):=by rw[zw];simp[z8]
  have yq:∀hh,(Yl cl)[d]'hh=((clD cl m:Nat):Int):=λhh=>(yI hh).2 yp;rw[hd]at *;refine Wb λY hY=>?_
  have yG:MG K 1 ks gs L Y:=by rw[hY];exact gG.grow _
  have yx:Y[G.length]?=some (.vars [.i m.src,.i d,.list (m.on.map encL)]):=by rw[hY,zO (by simp)];simp
  clear hY gG;generalize G.length=x at *;clear G
  have xa:=y6 (clD cl m);have zx:=yn (clD cl m);have yM:=yG.map;have zi:=λnp H'=>yG.put (t:=clD cl m) (p:=m.on) (np:=np) (H':=H');have yr:=yG.leaf (clD cl m);have zy:=yG.ne (clD cl m);generalize clD cl m=t at *
  have zb:cl[d]=t:=zw.symm;have zc:∀E,(Y++E)[x]?=some (.vars [.i m.src,.i d,.list (m.on.map encL)]):=λE=>Qb yx E;have zd:∀E hh,(Y++E)[x]'hh= .vars [.i m.src,.i d,.list (m.on.map encL)]:=λE hh=>(yI hh).2 (zc E);by_cases htk:t∈ks
  ·have ze:=yr htk;have y9:=zy htk;have yt:L t≠x:=λe=>by rw[e,yx]at ze;simp at ze
   have ya:=Qf ze;have z6:((gs t).map encP).length=(gs t).length:=by simp
   generalize yu:(gs t).map encP=ge at *
   have zt:∀E,(Y.set (L t) .dead++E)[x]?=some (.vars [.i m.src,.i d,.list (m.on.map encL)]):=λE=>Qb (Qd yt yx _) E;have zz:∀E hh,(Y.set (L t) .dead++E)[x]'hh= .vars [.i m.src,.i d,.list (m.on.map encL)]:=λE hh=>(yI hh).2 (zt E);refine U0 (P:=prog) tOk mixed [16,17] (.val 0 (.val 1 (.val 2 (.val 6 (.val 7 (.val 8 (.val 9 (.val 10 (.val 11 (.val 13 (.val 14 (.three 3 (.val 4 (.three 5 (.two 12 (.one 15 (.one 16 (.one 17 (.done)))) 15 (.one 12 (.one 16 (.one 17 (.done))))) 12 (.two 5 (.one 15 (.one 16 (.one 17 (.done)))) 15 (.two 5 (.one 16 (.one 17 (.done))) 16 (.val 5 (.one 17 (.done))))) 15 (.two 5 (.one 12 (.one 16 (.one 17 (.done)))) 12 (.two 5 (.one 16 (.one 17 (.done))) 16 (.val 5 (.one 17 (.done))))))) 12 (.two 3 (.val 4 (.two 5 (.one 15 (.one 16 (.one 17 (.done)))) 15 (.two 5 (.one 16 (.one 17 (.done))) 16 (.val 5 (.one 17 (.done)))))) 15 (.two 3 (.val 4 (.two 5 (.one 16 (.one 17 (.done))) 16 (.val 5 (.one 17 (.done))))) 16 (.val 3 (.val 4 (.val 5 (.one 17 (.done))))))) 15 (.two 3 (.val 4 (.two 5 (.one 12 (.one 16 (.one 17 (.done)))) 12 (.two 5 (.one 16 (.one 17 (.done))) 16 (.val 5 (.one 17 (.done)))))) 12 (.two 3 (.val 4 (.two 5 (.one 16 (.one 17 (.done))) 16 (.val 5 (.one 17 (.done))))) 16 (.val 3 (.val 4 (.val 5 (.one 17 (.done))))))))))))))))))) (λS'=>∃np,MG K 1 (Ko ks t) (λu=>if u=t then gs t++[m.on]else gs u) (λu=>if u=t then np else L u) S'.hp/\look S'.sl 1=some (LI (Yl cl))/\look S'.sl 3=some (.vptr 0 0)/\look S'.sl 6=some .nils/\look S'.sl 7=some (.mref 1)/\look S'.sl 18=some (.list ((Wa a s).map encMv))/\look S'.sl 19=some (.i (Wa a s).length)/\look S'.sl 20=some (.i j)) rfl (by kernel_rfl) ?_ ?_
   ·simp[yx,zc,zd,zb,z8]
    repeat' (first
     |refine And.intro ?_ ?_
     |(refine Jq rfl rfl rfl rfl rfl (by first|exact yM|exact Qb yM _) zp zr ?_;rw[if_pos htk];simp[yx,zc,zd,zb,z8])
     |(refine apS T87 T70 ?_;simp[Qb ze,Qh ze,z6,yx,zc,zd,zt,zz,zb,z8];refine⟨by simp[W1,z6]<;>omega,?_⟩;simp[zt,zz,zb,z8])
     |(refine apS T87 T70 ?_;simp[Qb ze,Qh ze,z6,yx,zc,zd,zt,zz,zb,z8];refine⟨by simp[W1,z6]<;>omega,?_⟩))
    all_goals
     refine Lr rfl rfl rfl rfl rfl (np:=Y.length+1) (n:=(gs t).length+1) rfl (ks:=ks) (gs:=gs) (L:=L) (Qb (Qd y9 yM _) _) zp zr za zx m.on rfl ?_;simp;refine⟨Y.length+1,zi (Y.length+1) _ (by omega) (Qg (Qb (Qd y9 yM _) _) _) ?_ ?_⟩
     ·rw[zH (by have:=Qf yM;omega),zO (by simp),xA,yu];simp
     intro jj h1 h2 h3;rw[zH (Ne.symm h2),zI (by simpa using h1),zH (λe=>h3 htk e.symm)]
   rintro⟨sl,E⟩ ⟨np,hE,s1,s3,s6,s7,s18,s19,s20⟩;simp only at hE s1 s3 s6 s7 s18 s19 s20;simp;refine Qp (sl':=[(1,LI (Yl cl)),(3,.vptr 0 0),(6,.nils),(7,.mref 1),(18,.list ((Wa a s).map encMv)),(19,.i (Wa a s).length),(20,.i j)]) ?_ (by simp[s1,s3,s6,s7,s18,s19,s20]);repeat(refine s_ ?_;simp[hw])
   refine Qc (sl':=[(1,LI (Yl cl)),(3,.vptr 0 0),(6,.nils),(7,.mref 1),(18,.list ((Wa a s).map encMv)),(19,.i (Wa a s).length),(20,.i (j+1:Nat))]) ?_ (by simp);exact zf _ E ⟨by omega,hE⟩ (by omega)
  have yb:=zx htk;have z6:(gs t).length=0:=by rw[yb];rfl
  refine U0 (P:=prog) tOk mixed [16,17] (.val 0 (.val 1 (.val 2 (.val 6 (.val 7 (.val 8 (.val 9 (.val 10 (.val 11 (.val 13 (.val 14 (.three 3 (.val 4 (.three 5 (.two 12 (.one 15 (.one 16 (.one 17 (.done)))) 15 (.one 12 (.one 16 (.one 17 (.done))))) 12 (.two 5 (.one 15 (.one 16 (.one 17 (.done)))) 15 (.two 5 (.one 16 (.one 17 (.done))) 16 (.val 5 (.one 17 (.done))))) 15 (.two 5 (.one 12 (.one 16 (.one 17 (.done)))) 12 (.two 5 (.one 16 (.one 17 (.done))) 16 (.val 5 (.one 17 (.done))))))) 12 (.two 3 (.val 4 (.two 5 (.one 15 (.one 16 (.one 17 (.done)))) 15 (.two 5 (.one 16 (.one 17 (.done))) 16 (.val 5 (.one 17 (.done)))))) 15 (.two 3 (.val 4 (.two 5 (.one 16 (.one 17 (.done))) 16 (.val 5 (.one 17 (.done))))) 16 (.val 3 (.val 4 (.val 5 (.one 17 (.done))))))) 15 (.two 3 (.val 4 (.two 5 (.one 12 (.one 16 (.one 17 (.done)))) 12 (.two 5 (.one 16 (.one 17 (.done))) 16 (.val 5 (.one 17 (.done)))))) 12 (.two 3 (.val 4 (.two 5 (.one 16 (.one 17 (.done))) 16 (.val 5 (.one 17 (.done))))) 16 (.val 3 (.val 4 (.val 5 (.one 17 (.done))))))))))))))))))) (λS'=>∃np,MG K 1 (Ko ks t) (λu=>if u=t then gs t++[m.on]else gs u) (λu=>if u=t then np else L u) S'.hp/\look S'.sl 1=some (LI (Yl cl))/\look S'.sl 3=some (.vptr 0 0)/\look S'.sl 6=some .nils/\look S'.sl 7=some (.mref 1)/\look S'.sl 18=some (.list ((Wa a s).map encMv))/\look S'.sl 19=some (.i (Wa a s).length)/\look S'.sl 20=some (.i j)) rfl (by kernel_rfl) ?_ ?_
  ·simp[yx,zc,zd,zb,z8]
   repeat' (first
    |refine And.intro ?_ ?_
    |(refine Jq rfl rfl rfl rfl rfl (by first|exact yM|exact Qb yM _) zp zr ?_;rw[if_neg htk];simp[yx,zc,zd,zb,z8])
    |(refine apS T87 T70 ?_;simp[yx,zc,zd,zb,z8];refine⟨by simp[W1]<;>omega,?_⟩))
   all_goals
    refine Lr rfl rfl rfl rfl rfl (np:=Y.length+1) (n:=1) rfl (ks:=ks) (gs:=gs) (L:=L) (Qb yM _) zp zr za zx m.on (by rw[z6]) ?_;simp;refine⟨Y.length+1,zi (Y.length+1) _ (by omega) (Qg (Qb yM _) _) ?_ ?_⟩
    ·rw[zH (by have:=Qf yM;omega),zO (by simp),xA,yb];simp
    intro jj h1 h2 h3;rw[zH (Ne.symm h2),zI h1]
  rintro⟨sl,E⟩ ⟨np,hE,s1,s3,s6,s7,s18,s19,s20⟩;simp only at hE s1 s3 s6 s7 s18 s19 s20;simp;refine Qp (sl':=[(1,LI (Yl cl)),(3,.vptr 0 0),(6,.nils),(7,.mref 1),(18,.list ((Wa a s).map encMv)),(19,.i (Wa a s).length),(20,.i j)]) ?_ (by simp[s1,s3,s6,s7,s18,s19,s20]);repeat(refine s_ ?_;simp[hw])
  refine Qc (sl':=[(1,LI (Yl cl)),(3,.vptr 0 0),(6,.nils),(7,.mref 1),(18,.list ((Wa a s).map encMv)),(19,.i (Wa a s).length),(20,.i (j+1:Nat))]) ?_ (by simp);exact zf _ E ⟨by omega,hE⟩ (by omega)
 have y0:j=(Wa a s).length:=by simp at yo;omega
 subst y0;have y6:∀t,(Xr a cl s (Wa a s).length t).length<=2048:=λt=>by unfold Xr;rw[yL];refine yW (xN _ _) ?_;rw[wC];omega
 refine Qp (sl':=[(3,.vptr 0 0),(6,.nils),(7,.mref 1)]) ?_ (by simp);refine MG.freeze za gG.inj gG.ne (λt ht=>by simp[AV.fz]) (Z3 a cl s (Wa a s).length).length 0 G (by omega) (by rw[j1w];exact gG.map) (λi t _ ht=>gG.leaf t (zL ht)) λH' y1 yc yd=>?_;have g0:H'[0]?=some (.vars [.i a.types,.list (a.fin.map .bool),.list (a.mv.map encMv),.list (Tj a)]):=by rw[yd 0 (by have:=Qf gG.map;omega) (by decide) (λt ht e=>by have:=gG.geL t ht;rw[hK]at this;simp at this;omega),gG.keep 0 (by rw[hK];simp)];exact ym
 rw[x21]at y1;clear yd gG ih;refine j1f 1 y1 (by simp[AV.pure]) ?_;have z1:=Qg y1 (.mp ((Z3 a cl s (Wa a s).length).map λt:Nat=>(AV.i t,AV.list ((Xr a cl s (Wa a s).length t).map encP))));have z0:=Qd (j:=1) (by decide) g0 (.mp ((Z3 a cl s (Wa a s).length).map λt:Nat=>(AV.i t,AV.list ((Xr a cl s (Wa a s).length t).map encP))));generalize H'.set 1 _=Z at *
 repeat(refine s_ ?_;simp)
 refine As tOk rfl rfl rfl g2g rfl rfl z1 ?_;simp;repeat(refine s_ ?_;simp)
 have zq:Xr a cl s (Wa a s).length=P2 a cl s:=funext λt=>j1h a cl s t;rw[zq]at *;generalize zh:Z3 a cl s (Wa a s).length=ks at *;refine Qp (sl':=[(3,.vptr 0 0),(6,.nils),(10,.nils),(43,.vptr Z.length 0)]) ?_ (by simp)
 refine Q5 10 73 3 rfl ?_;simp;have xb:=Qf z1;refine Wb λE hE=>?_;have e0:E[0]?=some (.vars [.i a.types,.list (a.fin.map .bool),.list (a.mv.map encMv),.list (Tj a)]):=by rw[hE];exact Qb (Qd (j:=1) (by decide) z0 _) _
 have ei:E[Z.length]?=some (.it (ks.map λt:Nat=>(.i t,.list ((P2 a cl s t).map encP))) none):=by rw[hE,zO (by simp)];simp
 have eq:E[Z.length+1]?=some (.arr 73 3 []):=by rw[hE,zO (by simp)];simp
 clear hE;generalize Z.length=I at *;clear z0 z1;clear Z
 have hT:=ha.ok.types;have yv:((a.types.toNat:Nat):Int)=a.types:=by omega
 have ye:∀t,∀p∈P2 a cl s t,PWf a.types.toNat p:=λt p hp=>by obtain⟨m,hm,rfl⟩:=zU.1 hp;exact(z0e ha.ok (xT.1 hm).1).1
 have yf:∀t,(P2 a cl s t).length<=1000000:=λt=>yW (y0h ha.ok cl s t) (by decide);have hU:∀t,PC prog 139 [.i a.types,LP (P2 a cl s t)] (λr=>r=encP (Uw a.types.toNat (P2 a cl s t))):=λt=>by
  have:=Ms a.types.toNat (P2 a cl s t) (by omega) (ye t) (λi _=>Ml ha.ok cl s t i) (yf t)
  rwa [yv]at this
 have yw:ks.length<=2048:=by rw[<-zh];unfold Z3;rw[yR];have:=c11 cl (Wa a s) [];simp only[List.length_nil]at this;omega
 have yy:∀t,∀r∈Uw a.types.toNat (P2 a cl s t),r.length<=1000000000:=λt r hr=>by have:=u28 (λi=>Ml ha.ok cl s t i) r hr;omega
 clear ye yf;refine Qi (Qc (sl':=[(3,.vptr 0 0),(6,.nils),(10,.sl (I+1) 3 0 ([]:List Nat).length),(43,.vptr I 0)]) ?_ (by simp));refine Qj (P:=prog) (F:=λ(u:List Nat×Option (AV×AV)×List Nat×Nat×List AObj)=>⟨[(3,.vptr 0 0),(6,.nils),(10,.sl u.2.2.2.1 3 0 u.2.2.1.length),(43,.vptr I 0)],u.2.2.2.2⟩)
  (λu=>I<u.2.2.2.1/\(u.2.2.1++u.1).Perm ks/\u.2.2.2.2[0]?=some (.vars [.i a.types,.list (a.fin.map .bool),.list (a.mv.map encMv),.list (Tj a)])/\u.2.2.2.2[I]?=some (.it (u.1.map λt:Nat=>(.i t,.list ((P2 a cl s t).map encP))) u.2.1)/\u.2.2.2.2[u.2.2.2.1]?=some (.arr 73 3 (u.2.2.1.map λt:Nat=>encMv ⟨0,t,Uw a.types.toNat (P2 a cl s t)⟩))) (λu=>u.1.length) ?_ (ks,none,[],I+1,E) ⟨by simp only;omega,by simp,e0,ei,eq⟩
 clear e0 ei eq;clear E;rintro⟨left,cur,ds,q,E⟩ ⟨yz,zg,e0,ei,eq⟩ ih;simp only at yz zg e0 ei eq ih |-;repeat(refine s_ ?_;simp)
 refine Pj rfl rfl rfl rfl ei (λx0=>?_) (λi p hp=>?_)
 ·simp;have x1:left=[]:=by simpa using x0
  subst x1;rw[xO]at zg;have xc:ds.length<=2048:=by rw[zg.length_eq];exact yw
  repeat(refine s_ ?_;simp)
  refine Qv rfl ?_;simp;repeat(refine s_ ?_;simp)
  have x2:(ds.map λt:Nat=>encMv ⟨0,t,Uw a.types.toNat (P2 a cl s t)⟩)=(ds.map λt:Nat=>(⟨0,(t:Int),Uw a.types.toNat (P2 a cl s t)⟩:Mv)).map encMv:=by rw[vV];rfl
  rw[x2]at eq;have zj:=y15 ha cl s (ks:=ds) (zg.symm.nodup za) (λt=>by
   rw[zg.mem_iff,<-zh,Vn,yR])
  have yg:∀m∈(ds.map λt:Nat=>(⟨0,(t:Int),Uw a.types.toNat (P2 a cl s t)⟩:Mv)),gdM a.types.toNat m:=λm hm=>by refine⟨zj.wf m hm,(Rs (zj.wf m hm)).2 (zj.ne m hm),λt ht=>?_⟩;obtain⟨u,_,rfl⟩:=zU.1 hm;exact yy u t ht
  obtain⟨L,hL⟩:∃L,L=(ds.map λt:Nat=>(⟨0,(t:Int),Uw a.types.toNat (P2 a cl s t)⟩:Mv)):=⟨_,rfl⟩
  have x3:ds.length=L.length:=by rw[hL];simp
  rw[<-hL]at eq zj yg;have x4:L.length<=1000000:=by omega
  rw[x3];refine Q0 rfl rfl (v1d a.types.toNat (by omega) E q L eq x4 yg) rfl ?_;rintro r H' ⟨rfl,l',h1,h2,rfl⟩;simp;have yh:=Yb ha cl hs;have zk:=zj.perm h1.symm;have zv:l'.Pairwise (ltG kyM):=by have x5:=zk.apart λt t' ty y=>X5 ha hs;refine(h2.and x5).imp λ{x y} h=>?_;obtain⟨e1,e2⟩:=h;exact d0r e1 e2
  have zl:l'=d1j a cl s:=zk.uniq yh.1 zv yh.2;have ya:=h1.length_eq;rw[<-ya];refine Qp (sl':=[(6,.nils),(10,.sl q 3 0 l'.length)]) ?_ (by simp);refine Wu q (Qg eq _) ?_;simp[AV.fz];rw[zZ (by simp),zl];repeat(refine s_ ?_;simp)
 simp;rw[z_]at hp;obtain⟨t,ht,rfl⟩:=zX.1 hp;rw[Sf];have zm:(ds++[t]++left.eraseIdx i).Perm ks:=by refine List.Perm.trans ?_ zg;rw[xU];exact List.Perm.append_left ds (Z4 left i t ht).symm
 have xd:(left.eraseIdx i).length<left.length:=by rw[uj,if_pos (W6 ht)];have:=W6 ht;omega
 have xe:ds.length+1<=2048:=by have:=zm.length_eq;simp at this;omega
 have xf:=Qf ei;have zf:=λy2 q' E'=>ih (left.eraseIdx i,y2,ds++[t],q',E');simp only[yP,List.length_singleton,xA,xR,wT]at zf;generalize left.eraseIdx i=left' at *
 have k0:=Qd (j:=I) (by intro e;rw[e,e0]at ei;simp at ei) e0 (.it (left'.map λt:Nat=>(AV.i t,AV.list ((P2 a cl s t).map encP))) (some (AV.i t,AV.list ((P2 a cl s t).map encP))));have ki:=Qg ei (.it (left'.map λt:Nat=>(AV.i t,AV.list ((P2 a cl s t).map encP))) (some (AV.i t,AV.list ((P2 a cl s t).map encP))));have kq:=Qd (j:=I) (by omega) eq (.it (left'.map λt:Nat=>(AV.i t,AV.list ((P2 a cl s t).map encP))) (some (AV.i t,AV.list ((P2 a cl s t).map encP))));generalize E.set I (.it (left'.map λt:Nat=>(AV.i t,AV.list ((P2 a cl s t).map encP))) (some (AV.i t,AV.list ((P2 a cl s t).map encP))))=E1 at *
 clear e0 ei eq;repeat(refine s_ ?_;simp)
 refine Qv rfl ?_;simp;repeat(refine s_ ?_;simp)
 refine Iw rfl rfl rfl rfl ki ?_;simp;have zn:(ds.map λt:Nat=>encMv ⟨0,t,Uw a.types.toNat (P2 a cl s t)⟩).length=ds.length:=by simp
 generalize y4:(ds.map λt:Nat=>encMv ⟨0,t,Uw a.types.toNat (P2 a cl s t)⟩)=mm at *
 repeat(refine s_ ?_;simp[k0])
 refine pcL (hU t) ?_;simp;refine apS T23 T73 ?_;simp[Qb kq,Qh kq,kq,zn];refine⟨by simp[W1,Qb kq,Qh kq,kq,zn]<;>omega,?_⟩;repeat(refine s_ ?_;simp)
 refine Qc (sl':=[(3,.vptr 0 0),(6,.nils),(10,.sl (E1.length+1) 3 0 (ds.length+1)),(43,.vptr I 0)]) ?_ (by simp);have xg:=Qf kq;refine zf _ (E1.length+1) _ ⟨by omega,by simpa using zm,Qb (Qd (j:=q) (by omega) k0 _) _,Qb (Qd (j:=q) (by omega) ki _) _,?_⟩ (by omega);rw[zO (by simp)];simp
end
section
open Go Go.Proofs
def Vv{a:Aut}(ha:Dfa a):(clA a).length=a.fin.length:=(v2q ha).len
def u2d{a:Aut}(ha:Dfa a):∀c∈clA a,c<=1000000:=λc hc=>by obtain⟨j,hj⟩:=yQ.1 hc;obtain⟨z1,rfl⟩:=zE.1 hj;have:=(v2q ha).lt_fs (by rw[Vv ha]at z1;exact z1);have h2:=y14 ha;have h3:=ha.ok.fin;simp only[yV,zP z1,Option.getD_some]at this;have h4:(S3 (eqS a) a.fin.length).1.length<=a.fin.length:=h2;unfold clA at *;omega
def x1j{l:List Nat}{i:Nat}(h:i<l.length):l.getD i 0∈l:=by rw[yV,zP h];exact zT h
def z29{a:Aut}(ha:Dfa a){c:Nat}(hc:G9 a c):c∈clA a:=by
 obtain⟨h1,h2⟩:=Tz ha hc;have hl:Tp a c<(clA a).length:=by rw[Vv ha];exact h1
 have e:Wt a (Tp a c)=(clA a).getD (Tp a c) 0:=rfl;rw[<-h2,e];exact x1j hl
def v2b{a:Aut}(ha:Dfa a){c:Nat}(hc:G9 a c):Nq (λy:Int=>((c:Nat):Int)==y) (Yl (clA a))=(Tp a c:Nat):=by
 have e:(λy:Int=>((c:Nat):Int)==y)=λy:Int=>y==((c:Nat):Int):=by funext y;rw[wB,beq_iff_eq,beq_iff_eq];exact eq_comm
 rw[e,g1j (z29 ha hc)];rfl
def u1v{a:Aut}(ha:Dfa a):(clA a)[0]?=some (Wt a 0):=by
 have z1:0<(clA a).length:=by rw[Vv ha];have:=ha.zero.2;omega
 have:Wt a 0=(clA a).getD 0 0:=by unfold Wt;rfl
 rw[this,yV,zP z1];rfl
def d0h{a:Aut}(ha:Dfa a){c:Nat}(hc:G9 a c):c<=1000000:=by have h3:=y14 ha;have h4:=ha.ok.fin;unfold G9 at hc;omega
end
section
open Go Go.Proofs Go.Maps Go.RowKit
abbrev v1i (a:Aut):AObj:= .vars [.i a.types,.list (a.fin.map .bool),.list (a.mv.map encMv),.list (Tj a)]
def w18(a:Aut)(c:Nat):d1j a (clA a) (Tp a c:Nat)=Ym a c:=rfl
def k0t{l:List Bool}{i:Nat}(h:i<l.length):l[i]?=some (l.getD i false):=by simp[yV,h]
attribute [local irreducible] clA Tp Ym Wh D0 F6 qMv qM qF Q4 mpO Wt d1j Tj G9
def q00(a:Aut)(ha:Dfa a):PC prog 56 [Rc a] (λr=>r=encA (Q4 a)):=by
 refine pcB func56 results56 ntmps56 ?_;simp only[Qe];simp only[Rc,Q3];have xg:=ha.ok.fin;have hlen:=Vv ha;have hle:=u2d ha;have y3:0<(clA a).length:=by rw[hlen];have:=ha.zero.2;omega
 have xh:=u1v ha;have xi:Wt a 0<=1000000:=d0h ha (Ac ha ha.zero);repeat(refine s_ ?_;simp)
 have cG:=w00 a ha;have cM:=λ(s:Int) (hs:inS a s)=>z1p a ha (clA a) hlen hle s hs;have xj:=λ(c:Nat) (hc:G9 a c)=>v2b ha hc;have y4:(Yl (clA a))[0]?=some ((Wt a 0:Nat):Int):=by simp[xh]
 have yw:0<(Yl (clA a)).length:=by simp[y3]
 generalize Yl (clA a)=CL at *
 have zk:∀hh,CL[0]'hh=((Wt a 0:Nat):Int):=λhh=>(yI hh).2 y4;simp only[Rc,Q3]at cG cM;refine pcL (cG) ?_;simp;repeat(refine s_ ?_;simp)
 refine W8 rfl rfl rfl ?_;simp[yw,y4,zk];refine g03 rfl rfl rfl rfl (c:=Wt a 0) rfl rfl rfl xi ?_;simp;repeat(refine s_ ?_;simp[yw,y4,zk])
 refine Qp (sl':=[(1,.vptr 0 0),(2,.vptr 1 0),(3,LI CL),(4,.mref 2),(5,.sl 3 1 0 1),(6,.vptr 4 0),(7,.i (0:Nat))]) ?_ (by simp);refine Ts 4 1 4 1 rfl rfl ?_;refine Wb λZ1 z8=>?_;have z1l:Z1.length=6:=by rw[z8];simp
 have z1c:Z1[4]?=some (.vars [.i a.types,.sl 5 1 0 0,.nils]):=by rw[z8];rfl
 have z1f:Z1[5]?=some (.arr 4 1 []):=by rw[z8];rfl
 have z1o:Z1[3]?=some (.arr 3 1 [.i (Wt a 0:Nat)]):=by rw[z8];rfl
 have z1m:Z1[2]?=some (mpO [Wt a 0]):=by rw[z8];rfl
 have z10:Z1[0]?=some (v1i a):=by rw[z8];rfl
 have z11:Z1[1]?=some (.vars [.i 0,.nils,.nils]):=by rw[z8];rfl
 clear z8;refine Ts 4 2 73 3 z1c rfl ?_;refine Wb λZ2 za=>?_;have z2c:Z2[4]?=some (.vars [.i a.types,.sl 5 1 0 0,.sl 6 3 0 0]):=by rw[za,zS (by simp;omega)];simp[z1l]
 have z2f:Z2[5]?=some (.arr 4 1 []):=by rw[za,zH (by omega),zI (by omega)];exact z1f
 have z2v:Z2[6]?=some (.arr 73 3 []):=by rw[za,zH (by omega),zO (by omega)];simp[z1l]
 have z2o:Z2[3]?=some (.arr 3 1 [.i (Wt a 0:Nat)]):=by rw[za,zH (by omega),zI (by omega)];exact z1o
 have z2m:Z2[2]?=some (mpO [Wt a 0]):=by rw[za,zH (by omega),zI (by omega)];exact z1m
 have z20:Z2[0]?=some (v1i a):=by rw[za,zH (by omega),zI (by omega)];exact z10
 have z21:Z2[1]?=some (.vars [.i 0,.nils,.nils]):=by rw[za,zH (by omega),zI (by omega)];exact z11
 clear za z1l z1c z1f z10 z11 z1o z1m;clear Z1;refine Qi (Qc (sl':=[(1,.vptr 0 0),(2,.vptr 1 0),(3,LI CL),(4,.mref 2),(5,.sl 3 1 0 [Wt a 0].length),(6,.vptr 4 0),(7,.i (0:Nat))]) ?_ (by simp));refine Qj (P:=prog) (F:=λ(u:Nat×List Nat×Nat×Nat×Nat×List AObj)=>⟨[(1,.vptr 0 0),(2,.vptr 1 0),(3,LI CL),(4,.mref 2),(5,.sl u.2.2.1 1 0 u.2.1.length),(6,.vptr 4 0),(7,.i u.1)],u.2.2.2.2.2⟩)
  (λu=>QI a u.1 u.2.1/\u.2.2.2.2.2[0]?=some (v1i a)/\u.2.2.2.2.2[1]?=some (.vars [.i 0,.nils,.nils])/\u.2.2.2.2.2[2]?=some (mpO u.2.1)/\u.2.2.2.2.2[4]?=some (.vars [.i a.types,.sl u.2.2.2.1 1 0 u.1,.sl u.2.2.2.2.1 3 0 (qM a u.1 u.2.1).length])/\u.2.2.2.2.2[u.2.2.1]?=some (.arr 3 1 ((Yl u.2.1).map .i))/\u.2.2.2.2.2[u.2.2.2.1]?=some (.arr 4 1 ((qF a (u.2.1.take u.1)).map .bool))/\u.2.2.2.2.2[u.2.2.2.2.1]?=some (.arr 73 3 ((qM a u.1 u.2.1).map encMv)))
  (λu=>a.fin.length+1 - u.1) ?_ (0,[Wt a 0],3,5,6,Z2) ⟨QI.zero ha,z20,z21,z2m,by rw[y1y];exact z2c,z2o,by simpa[k28]using z2f,by rw[y1y];exact z2v⟩
 clear z20 z21 z2c z2f z2v z2o z2m;clear Z2;rintro⟨n,O,o,f,v,G⟩ ⟨hQ,g0,g1,gm,gc,go,gf,gv⟩ ih;simp only at hQ g0 g1 gm gc go gf gv ih |-;have w7:=hQ.len ha;have yy:=hQ.cl;repeat(refine s_ ?_;simp)
 refine Qa rfl (λxk=>?_) (λxl=>?_)
 ·have zd:n<O.length:=by simpa using xk
  have hw:=wz n (by omega);have y5:O[n]?=some O[n]:=zP zd;have zl:=yy _ (zT zd);have hst:=hQ.step ha y5;have yz:=x2r hQ y5;have x3:=w2n a (Ym a O[n]) y5;have xn:=u25 ha hQ;have zx:=λo' f' v' G'=>ih (n+1,Wh O (Ym a O[n]),o',f',v',G');simp only[yz,x3]at zx;clear yz x3 ih;have xp:((Yl O).map AV.i).length=O.length:=by simp
  have x4:=(Tz ha zl).1;have xq:=Yc ha zl;have xr:=xj _ zl;have xt:=w18 a O[n];have xu:=Cc ha zl;have x5:∀m∈Ym a O[n],∃d:Nat,m.dst=d/\d<=1000000:=λm hm=>by obtain⟨x,_,e,_,e2,_⟩:=Um ha zl hm;exact⟨_,e,d0h ha e2⟩
  generalize xw:O[n]=c at *
  have x6:=k0t x4;have xy:∀hh,a.fin[Tp a c]'hh=a.fin.getD (Tp a c) false:=λhh=>(yI hh).2 x6;generalize a.fin.getD (Tp a c) false=b at *
  have w8:(Wa a (Tp a c:Nat)).length<=a.mv.length:=xN _ _;have w9:=ha.ok.mvs;have y6:o≠f:=λe=>by rw[e,gf]at go;simp at go
  have y7:o≠v:=λe=>by rw[e,gv]at go;simp at go
  have ze:f≠v:=λe=>by rw[e,gv]at gf;simp at gf
  have zy:o≠4:=λe=>by rw[e,gc]at go;simp at go
  have zj:f≠4:=λe=>by rw[e,gc]at gf;simp at gf
  have zn:v≠4:=λe=>by rw[e,gc]at gv;simp at gv
  have x7:o≠0:=λe=>by rw[e,g0]at go;simp at go
  have xz:f≠0:=λe=>by rw[e,g0]at gf;simp at gf
  have y8:v≠0:=λe=>by rw[e,g0]at gv;simp at gv
  have x8:o≠1:=λe=>by rw[e,g1]at go;simp at go
  have y9:f≠1:=λe=>by rw[e,g1]at gf;simp at gf
  have zp:v≠1:=λe=>by rw[e,g1]at gv;simp at gv
  have ya:o≠2:=λe=>by rw[e,gm]at go;unfold mpO at go;simp at go
  have yb:f≠2:=λe=>by rw[e,gm]at gf;unfold mpO at gf;simp at gf
  have zz:v≠2:=λe=>by rw[e,gm]at gv;unfold mpO at gv;simp at gv
  repeat(refine s_ ?_;simp[go,xp,zd,xw])
  refine pcL (x0w CL c) ?_;simp;rw[xr];repeat(refine s_ ?_;simp)
  have zq:((qF a (O.take n)).map AV.bool).length=n:=by simp[q2m];omega
  generalize wa:(qF a (O.take n))=fs at *;refine Qn tOk mixed [9,11] (.val 0 (.val 1 (.val 2 (.val 3 (.val 4 (.val 5 (.val 6 (.val 7 (.one 8 (.one 9 (.val 10 (.one 11 (.done))))))))))))) rfl (by kernel_rfl) ?_
  simp[gc,g0,x4,x6,xy];have g2c:∀M,(G.set f .dead++M)[4]?=some (.vars [.i a.types,.sl f 1 0 n,.sl v 3 0 (qM a n O).length]):=λM=>Qb (Qd zj gc _) M;have g2d:∀M hh,(G.set f .dead++M)[4]'hh= .vars [.i a.types,.sl f 1 0 n,.sl v 3 0 (qM a n O).length]:=λM hh=>(yI hh).2 (g2c M);refine apS T22 T4 ?_;simp[Qb gf,Qh gf,gf,zq,g2c,g2d];refine⟨by simp[W1,Qb gf,Qh gf,gf,zq,g2c,g2d]<;>omega,?_⟩;refine Wb λZ hZ=>?_;have yd:=Qf go;have ye:=Qf gv;have yg:=Qf gf;have z0:Z[0]?=some (v1i a):=by rw[hZ];exact Qd (by decide) (Qb (Qd xz g0 _) _) _
  have z1:Z[1]?=some (.vars [.i 0,.nils,.nils]):=by rw[hZ];exact Qd (by decide) (Qb (Qd y9 g1 _) _) _
  have zm:Z[2]?=some (mpO O):=by rw[hZ];exact Qd (by decide) (Qb (Qd yb gm _) _) _
  have zc:Z[4]?=some (.vars [.i a.types,.sl (G.length+1) 1 0 (n+1),.sl v 3 0 (qM a n O).length]):=by rw[hZ];exact Qg (g2c _) _
  have zf:Z[G.length+1]?=some (.arr 4 1 ((fs++[b]).map .bool)):=by rw[hZ,zH (by omega),zO (by simp)];simp
  have zv:Z[v]?=some (.arr 73 3 ((qM a n O).map encMv)):=by rw[hZ];exact Qd (Ne.symm zn) (Qb (Qd ze gv _) _) _
  have zo:Z[o]?=some (.arr 3 1 ((Yl O).map .i)):=by rw[hZ];exact Qd (Ne.symm zy) (Qb (Qd (Ne.symm y6) go _) _) _
  clear hZ g2c g2d g0 g1 gc go gf gv gm;generalize G.length+1=f1 at *
  have cMc:=cM (Tp a c) xq;rw[xt]at cMc;obtain⟨M,hM⟩:∃M,M=qM a n O:=⟨_,rfl⟩
  rw[<-hM]at zc zv xn zx;obtain⟨L,hL⟩:∃L,L=Ym a c:=⟨_,rfl⟩
  rw[<-hL]at xu x5 zx hst cMc;repeat(refine s_ ?_;simp[z0])
  refine pcL (cMc) ?_;simp;repeat(refine s_ ?_;simp)
  refine Qi (Qc (sl':=[(1,.vptr 0 0),(2,.vptr 1 0),(3,LI CL),(4,.mref 2),(5,.sl o 1 0 (Wh O (L.take 0)).length),(6,.vptr 4 0),(7,.i n),(54,.list (L.map encMv)),(55,.i L.length),(56,.i (0:Nat))]) ?_ (by simp[U9]));refine Qj (P:=prog) (F:=λ(u:Nat×Nat×Nat×List AObj)=>⟨[(1,.vptr 0 0),(2,.vptr 1 0),(3,LI CL),(4,.mref 2),(5,.sl u.2.1 1 0 (Wh O (L.take u.1)).length),(6,.vptr 4 0),(7,.i n),(54,.list (L.map encMv)),(55,.i L.length),(56,.i u.1)],u.2.2.2⟩)
   (λu=>u.1<=L.length/\u.2.2.2[0]?=some (v1i a)/\u.2.2.2[1]?=some (.vars [.i 0,.nils,.nils])/\u.2.2.2[2]?=some (mpO (Wh O (L.take u.1)))/\u.2.2.2[4]?=some (.vars [.i a.types,.sl f1 1 0 (n+1),.sl u.2.2.1 3 0 (M++qMv O L n u.1).length])/\u.2.2.2[u.2.1]?=some (.arr 3 1 ((Yl (Wh O (L.take u.1))).map .i))/\u.2.2.2[f1]?=some (.arr 4 1 ((fs++[b]).map .bool))/\u.2.2.2[u.2.2.1]?=some (.arr 73 3 ((M++qMv O L n u.1).map encMv))/\(Wh O (L.take u.1)).Nodup/\∀c∈Wh O (L.take u.1),c<=1000000)
   (λu=>L.length - u.1) ?_ (0,o,v,Z) ⟨xP _,z0,z1,by rw[wD,U9];exact zm,by rw[v0g,xO];exact zc,by rw[wD,U9];exact zo,zf,by rw[v0g,xO];exact zv,by rw[wD,U9];exact hQ.nd,by rw[wD,U9];exact λc hc=>d0h ha (yy c hc)⟩
  clear z0 z1 zc zo zf zv yd ye yg zm;clear Z;rintro⟨j,o,v,Z⟩ ⟨hj,z0,z1,zm,zc,zo,zf,zv,y2,zb⟩ ih2;simp only at hj z0 z1 zm zc zo zf zv y2 zb ih2 |-;repeat(refine s_ ?_;simp)
  refine Qa rfl (λyh=>?_) (λyi=>?_)
  ·have z7:j<L.length:=by simpa using yh
   have x9:=wz j (by omega);have xa:=f1a O L n z7;have xb:=H4 (o:=O) z7;have wb:=z2h O L n j;have we:(Wh O (L.take j)).length<=O.length+L.length:=k0u O (L.take j) (by simp;omega);have z6:=λo' v' Z'=>ih2 (j+1,o',v',Z');simp only[xa,xb,<-xU]at z6;clear xa xb;obtain⟨d,hd,yj⟩:=x5 _ (zT z7);have yk:(L.map encMv)[j]?=some (encMv L[j]):=by simp[z7]
   have yl:∀hh,(L.map encMv)[j]'hh=encMv L[j]:=λhh=>by simp
   generalize w2:L[j]=m at *;rw[hd]at z6;simp only[Int.toNat_natCast]at z6;generalize hN:M++qMv O L n j=N at *
   have wg:N.length<=700000:=by rw[<-hN,yP];omega
   generalize Wh O (L.take j)=Oj at *;simp only[encMv]at yk yl;rw[hd]at yk yl
   have wh:4<Z.length:=Qf zc;have y6:o≠f1:=λe=>by rw[e,zf]at zo;simp at zo
   have y7:o≠v:=λe=>by rw[e,zv]at zo;simp at zo
   have ze:f1≠v:=λe=>by rw[e,zv]at zf;simp at zf
   have zy:o≠4:=λe=>by rw[e,zc]at zo;simp at zo
   have zj:f1≠4:=λe=>by rw[e,zc]at zf;simp at zf
   have zn:v≠4:=λe=>by rw[e,zc]at zv;simp at zv
   have x7:o≠0:=λe=>by rw[e,z0]at zo;simp at zo
   have y8:v≠0:=λe=>by rw[e,z0]at zv;simp at zv
   have x8:o≠1:=λe=>by rw[e,z1]at zo;simp at zo
   have zp:v≠1:=λe=>by rw[e,z1]at zv;simp at zv
   have ya:o≠2:=λe=>by rw[e,zm]at zo;unfold mpO at zo;simp at zo
   have zz:v≠2:=λe=>by rw[e,zm]at zv;unfold mpO at zv;simp at zv
   have yb:f1≠2:=λe=>by rw[e,zm]at zf;unfold mpO at zf;simp at zf
   repeat(refine s_ ?_;simp[yk,yl,z7])
   refine Hy λY hY=>?_;have y0:Y[0]?=some (v1i a):=by rw[hY];exact Qb z0 _
   have y1:Y[1]?=some (.vars [.i 0,.nils,.nils]):=by rw[hY];exact Qb z1 _
   have ym:Y[2]?=some (mpO Oj):=by rw[hY];exact Qb zm _
   have yc:Y[4]?=some (.vars [.i a.types,.sl f1 1 0 (n+1),.sl v 3 0 N.length]):=by rw[hY];exact Qb zc _
   have yo:Y[o]?=some (.arr 3 1 ((Yl Oj).map .i)):=by rw[hY];exact Qb zo _
   have yf:Y[f1]?=some (.arr 4 1 ((fs++[b]).map .bool)):=by rw[hY];exact Qb zf _
   have yv:Y[v]?=some (.arr 73 3 (N.map encMv)):=by rw[hY];exact Qb zv _
   have yx:Y[Z.length]?=some (.vars [.i m.src,.i d,.list (m.on.map encL)]):=by rw[hY,zO (by simp)];simp
   clear hY z0 z1 zm zc zo zf zv;generalize Z.length=u at *;clear Z
   have wi:v≠u:=λe=>by rw[e,yx]at yv;simp at yv
   have w3:o≠u:=λe=>by rw[e,yx]at yo;simp at yo
   have w4:2≠u:=λe=>by rw[<-e,ym]at yx;unfold mpO at yx;simp at yx
   have wj:4<u:=by omega
   refine w0z rfl rfl rfl rfl (c:=d) rfl (l:=Oj) ym y2 zb yj ?_;by_cases hmem:d∈Oj
   ·have zr:D0 Oj d=Oj:=by unfold D0;rw[if_pos hmem]
    rw[zr]at z6;rw[if_pos hmem,decide_eq_true hmem];obtain⟨x,hx⟩:∃x,x=F6 Oj d:=⟨_,rfl⟩
    rw[<-hx]at z6 |-;clear hx zr;simp;repeat(refine s_ ?_;simp)
    refine Qv rfl ?_;simp;have zg:=zy;have zh:=y7;have zi:=y2;have yn:=zb;have zt:(N.map encMv).length=N.length:=by simp
    have yp:(N++[(⟨n,x,m.on⟩:Mv)]).map encMv=N.map encMv++[encMv ⟨n,x,m.on⟩]:=by simp
    have yq:(N++[(⟨n,x,m.on⟩:Mv)]).length=N.length+1:=by simp
    rw[yp,yq]at z6;generalize N.map encMv=NM at *
    have g3c:∀M,(Y.set v .dead++M)[4]?=some (.vars [.i a.types,.sl f1 1 0 (n+1),.sl v 3 0 N.length]):=λM=>Qb (Qd zn yc _) M;have g3d:∀M hh,(Y.set v .dead++M)[4]'hh= .vars [.i a.types,.sl f1 1 0 (n+1),.sl v 3 0 N.length]:=λM hh=>(yI hh).2 (g3c M);repeat(refine s_ ?_;simp[yc,yx])
    refine apS T23 T73 ?_;simp[Qb yv,Qh yv,yv,zt,g3c,g3d];refine⟨by simp[W1,Qb yv,Qh yv,yv,zt,g3c,g3d]<;>omega,?_⟩;refine Wb λW hW=>?_;have yr:=Qf yv;have yt:=Qf yc;have w0:W[0]?=some (v1i a):=by rw[hW];exact Qd (by decide) (Qb (Qd y8 y0 _) _) _
    have w1:W[1]?=some (.vars [.i 0,.nils,.nils]):=by rw[hW];exact Qd (by decide) (Qb (Qd zp y1 _) _) _
    have wm:W[2]?=some (mpO Oj):=by rw[hW];exact Qd (by decide) (Qb (Qd zz ym _) _) _
    have wc:W[4]?=some (.vars [.i a.types,.sl f1 1 0 (n+1),.sl (Y.length+1) 3 0 (N.length+1)]):=by rw[hW];exact Qg (g3c _) _
    have wo:W[o]?=some (.arr 3 1 ((Yl Oj).map .i)):=by rw[hW];exact Qd (Ne.symm zg) (Qb (Qd (Ne.symm zh) yo _) _) _
    have wf:W[f1]?=some (.arr 4 1 ((fs++[b]).map .bool)):=by rw[hW];exact Qd (Ne.symm zj) (Qb (Qd (Ne.symm ze) yf _) _) _
    have wv:W[Y.length+1]?=some (.arr 73 3 (NM++[encMv ⟨n,x,m.on⟩])):=by rw[hW,zH (by omega),zO (by simp)];simp
    clear hW;repeat(refine s_ ?_;simp[x9])
    refine Qc (sl':=[(1,.vptr 0 0),(2,.vptr 1 0),(3,LI CL),(4,.mref 2),(5,.sl o 1 0 Oj.length),(6,.vptr 4 0),(7,.i n),(54,.list (L.map encMv)),(55,.i L.length),(56,.i (j+1:Nat))]) ?_ (by simp);exact z6 o (Y.length+1) W ⟨by omega,w0,w1,wm,wc,wo,wf,wv,zi,yn⟩ (by omega)
   have zr:D0 Oj d=Oj++[d]:=by unfold D0;rw[if_neg hmem]
   have xd:=f0q hmem;rw[zr,xd]at z6;rw[if_neg hmem,decide_eq_false hmem];clear zr xd;simp;repeat(refine s_ ?_;simp)
   refine Qv rfl ?_;simp;repeat(refine s_ ?_;simp[yx])
   refine j0z rfl rfl rfl rfl (c:=d) rfl (l:=Oj) rfl ym zb yj hmem ?_;simp;refine Wb λX hX=>?_;have x0:X[0]?=some (v1i a):=by rw[hX];exact Qd (by decide) y0 _
   have x1:X[1]?=some (.vars [.i 0,.nils,.nils]):=by rw[hX];exact Qd (by decide) y1 _
   have xm:X[2]?=some (mpO (Oj++[d])):=by rw[hX];exact Qg ym _
   have xc:X[4]?=some (.vars [.i a.types,.sl f1 1 0 (n+1),.sl v 3 0 N.length]):=by rw[hX];exact Qd (by decide) yc _
   have xo:X[o]?=some (.arr 3 1 ((Yl Oj).map .i)):=by rw[hX];exact Qd (Ne.symm ya) yo _
   have xf:X[f1]?=some (.arr 4 1 ((fs++[b]).map .bool)):=by rw[hX];exact Qd (Ne.symm yb) yf _
   have xv:X[v]?=some (.arr 73 3 (N.map encMv)):=by rw[hX];exact Qd (Ne.symm zz) yv _
   have xx:X[u]?=some (.vars [.i m.src,.i d,.list (m.on.map encL)]):=by rw[hX];exact Qd w4 yx _
   clear hX y0 y1 ym yc yo yf yv yx;clear Y;have w5:(Yl Oj).length=Oj.length:=by simp
   have w6:Yl (Oj++[d])=Yl Oj++[(d:Int)]:=by simp
   rw[w6]at z6;generalize Yl Oj=NO at *
   have zu:(NO.map AV.i).length=Oj.length:=by simp[w5]
   have x0s:∀E,(X.set o .dead++E)[u]?=some (.vars [.i m.src,.i d,.list (m.on.map encL)]):=λE=>Qb (Qd w3 xx _) E;repeat(refine s_ ?_;simp[xx])
   refine apS T47 T3 ?_;simp[Qb xo,Qh xo,xo,zu];refine⟨by simp[W1,Qb xo,Qh xo,xo,zu]<;>omega,?_⟩;refine Wb λY hY=>?_;have wk:=Qf xv;have wq:=Qf xf;have wu:=Qf xc;have y0:Y[0]?=some (v1i a):=by rw[hY];exact Qb (Qd x7 x0 _) _
   have y1:Y[1]?=some (.vars [.i 0,.nils,.nils]):=by rw[hY];exact Qb (Qd x8 x1 _) _
   have ym:Y[2]?=some (mpO (Oj++[d])):=by rw[hY];exact Qb (Qd ya xm _) _
   have yc:Y[4]?=some (.vars [.i a.types,.sl f1 1 0 (n+1),.sl v 3 0 N.length]):=by rw[hY];exact Qb (Qd zy xc _) _
   have yf:Y[f1]?=some (.arr 4 1 ((fs++[b]).map .bool)):=by rw[hY];exact Qb (Qd y6 xf _) _
   have yv:Y[v]?=some (.arr 73 3 (N.map encMv)):=by rw[hY];exact Qb (Qd y7 xv _) _
   have yx:Y[u]?=some (.vars [.i m.src,.i d,.list (m.on.map encL)]):=by rw[hY];exact x0s _
   have yo:Y[X.length+1]?=some (.arr 3 1 ((NO++[(d:Int)]).map .i)):=by rw[hY,zO (by simp)];simp
   clear hY;obtain⟨x,hx⟩:∃x,x=Oj.length:=⟨_,rfl⟩
   refine Qp (sl':=[(1,.vptr 0 0),(2,.vptr 1 0),(3,LI CL),(4,.mref 2),(5,.sl (X.length+1) 1 0 (Oj++[d]).length),(6,.vptr 4 0),(7,.i n),(10,.vptr u 0),(11,.i x),(54,.list (L.map encMv)),(55,.i L.length),(56,.i j)]) ?_ (by simp[hx]);rw[<-hx]at z6;have zg:X.length+1≠4:=by omega
   have zh:X.length+1≠v:=by omega
   have zi:(Oj++[d]).Nodup:=vD.2 ⟨y2,by simp,λx hx y hy e=>by rw[zV.1 hy]at e;exact hmem (e▸hx)⟩;have yn:∀c∈Oj++[d],c<=1000000:=λc hc=>by
    rcases yB.1 hc with hc|hc
    ·exact zb c hc
    rw[zV.1 hc];exact yj
   generalize X.length+1=oq at *;generalize NO++[(d:Int)]=NQ at *;clear hx;generalize Oj++[d]=OQ at *
   have zt:(N.map encMv).length=N.length:=by simp
   have yp:(N++[(⟨n,x,m.on⟩:Mv)]).map encMv=N.map encMv++[encMv ⟨n,x,m.on⟩]:=by simp
   have yq:(N++[(⟨n,x,m.on⟩:Mv)]).length=N.length+1:=by simp
   rw[yp,yq]at z6;generalize N.map encMv=NM at *
   have g3c:∀M,(Y.set v .dead++M)[4]?=some (.vars [.i a.types,.sl f1 1 0 (n+1),.sl v 3 0 N.length]):=λM=>Qb (Qd zn yc _) M;have g3d:∀M hh,(Y.set v .dead++M)[4]'hh= .vars [.i a.types,.sl f1 1 0 (n+1),.sl v 3 0 N.length]:=λM hh=>(yI hh).2 (g3c M);repeat(refine s_ ?_;simp[yc,yx])
   refine apS T23 T73 ?_;simp[Qb yv,Qh yv,yv,zt,g3c,g3d];refine⟨by simp[W1,Qb yv,Qh yv,yv,zt,g3c,g3d]<;>omega,?_⟩;refine Wb λW hW=>?_;have yr:=Qf yv;have yt:=Qf yc;have w0:W[0]?=some (v1i a):=by rw[hW];exact Qd (by decide) (Qb (Qd y8 y0 _) _) _
   have w1:W[1]?=some (.vars [.i 0,.nils,.nils]):=by rw[hW];exact Qd (by decide) (Qb (Qd zp y1 _) _) _
   have wm:W[2]?=some (mpO OQ):=by rw[hW];exact Qd (by decide) (Qb (Qd zz ym _) _) _
   have wc:W[4]?=some (.vars [.i a.types,.sl f1 1 0 (n+1),.sl (Y.length+1) 3 0 (N.length+1)]):=by rw[hW];exact Qg (g3c _) _
   have wo:W[oq]?=some (.arr 3 1 (NQ.map .i)):=by rw[hW];exact Qd (Ne.symm zg) (Qb (Qd (Ne.symm zh) yo _) _) _
   have wf:W[f1]?=some (.arr 4 1 ((fs++[b]).map .bool)):=by rw[hW];exact Qd (Ne.symm zj) (Qb (Qd (Ne.symm ze) yf _) _) _
   have wv:W[Y.length+1]?=some (.arr 73 3 (NM++[encMv ⟨n,x,m.on⟩])):=by rw[hW,zH (by omega),zO (by simp)];simp
   clear hW;repeat(refine s_ ?_;simp[x9])
   refine Qc (sl':=[(1,.vptr 0 0),(2,.vptr 1 0),(3,LI CL),(4,.mref 2),(5,.sl oq 1 0 OQ.length),(6,.vptr 4 0),(7,.i n),(54,.list (L.map encMv)),(55,.i L.length),(56,.i (j+1:Nat))]) ?_ (by simp);exact z6 oq (Y.length+1) W ⟨by omega,w0,w1,wm,wc,wo,wf,wv,zi,yn⟩ (by omega)
  have zw:j=L.length:=by simp at yi;omega
  subst zw;rw[yR]at zo zm |-;repeat(refine s_ ?_;simp[hw])
  refine Qc (sl':=[(1,.vptr 0 0),(2,.vptr 1 0),(3,LI CL),(4,.mref 2),(5,.sl o 1 0 (Wh O L).length),(6,.vptr 4 0),(7,.i (n+1:Nat))]) ?_ (by simp);exact zx o f1 v Z ⟨hst,z0,z1,zm,zc,zo,zf,zv⟩ (by omega)
 have yu:n=O.length:=by simp at xl;have:=hQ.le;omega
 rw[x2h ha hQ yu];have xe:=q2m a (O.take n);rw[wC,Nat.min_eq_left hQ.le]at xe;generalize qF a (O.take n)=fs at *;generalize qM a n O=M at *
 have ze:f≠v:=λe=>by rw[e,gv]at gf;simp at gf
 have zj:f≠4:=λe=>by rw[e,gc]at gf;simp at gf
 have zn:v≠4:=λe=>by rw[e,gc]at gv;simp at gv
 have y9:f≠1:=λe=>by rw[e,g1]at gf;simp at gf
 have zp:v≠1:=λe=>by rw[e,g1]at gv;simp at gv
 rw[<-xe]at gc;refine Qp (sl':=[(2,.vptr 1 0),(6,.vptr 4 0)]) ?_ (by simp);refine Wn v gv 4 gc ?_;simp[ze];rw[zZ (by simp)];refine Wb λZ hZ=>?_;have wx:=Qf gv;have z2:Z[4]?=some (.vars [.i a.types,.sl f 1 0 fs.length,.list (M.map encMv)]):=by rw[hZ,zS (by have:=Qf gc;simpa using this)]
 have zf:Z[f]?=some (.arr 4 1 (fs.map .bool)):=by rw[hZ,zH (Ne.symm zj),zH (Ne.symm ze)];exact gf
 have z1:Z[1]?=some (.vars [.i 0,.nils,.nils]):=by rw[hZ,zH (by decide),zH zp];exact g1
 clear hZ;refine Wn f zf 4 z2 ?_;simp;rw[zZ (by simp)];refine Wb λX hX=>?_;have x2:X[4]?=some (.vars [.i a.types,.list (fs.map .bool),.list (M.map encMv)]):=by rw[hX,zS (by have:=Qf z2;simpa using this)]
 have x1:X[1]?=some (.vars [.i 0,.nils,.nils]):=by rw[hX,zH (by decide),zH y9];exact z1
 clear hX;have x1s:∀Y,(X.set 1 Y)[1]?=some Y:=λY=>Qg x1 Y;repeat(refine s_ ?_;simp[x2,x1,x1s])
end
section
open Go Go.Proofs
def v1z{a:Aut}(ha:Dfa a){m:Mv}(hm:m∈(Q4 a).mv):Ra a.types m.on=0↔(m.on.any λs=>decide (256<s.length))=false:=by
 have h:=Xs ha;have hT:=ha.ok.types;have hw:PWf a.types.toNat m.on:=h.on m hm;rw[Ef];simp only[vI,decide_eq_true_eq];constructor
 ·rintro⟨_,h2⟩ s hs;have:=(h2.2 s hs).len;omega
 intro h2;refine⟨hT,hw.1,λs hs=>?_⟩;have z1:=hw.2 s hs;exact Jx z1.1 (y0r z1.1 z1.2) (by have:=h2 s hs;omega)
def q1v{a:Aut}(h:Wd a≠0):(Ed a).1=Wd a:=by unfold Ed;rw[w0m h,if_pos h]
def x1c{a:Aut}(h:(Ed a).1≠0):Ab a=((Ed a).1,Iq):=by rw[Ab,if_pos h]
def q28{a:Aut}(h:Wd a≠0):Ab a=(Wd a,Iq):=by rw[x1c (by rw[q1v h];exact h),q1v h]
def X0{a:Aut}(h:(Ed a).1=0):Kw (Ed a).2=Du (Ed a).2:=by rw[Kw,if_neg (λk=>k ((Yh _).2 (k2w h)))]
def q2y{a:Aut}(h:(Ed a).1=0)(h2:(Kw (Ed a).2).1≠0):Ab a=((Kw (Ed a).2).1,Iq):=by rw[X0 h]at *;rw[Ab,if_neg (λk=>k h),if_pos h2]
def k2n{a:Aut}(h:(Ed a).1=0)(h2:(Kw (Ed a).2).1=0):Ab a=if Hn (Q4 (Kw (Ed a).2).2)then(5,Iq)else(0,Q4 (Kw (Ed a).2).2):=by rw[X0 h]at *;rw[Ab,if_neg (λk=>k h),if_neg (λk=>k h2)]
def f1u{a:Aut}(z1:Wd a=0)(h:(Ed a).1=0)(h2:(Kw (Ed a).2).1=0):Dfa (Kw (Ed a).2).2:=by rw[X0 h]at *;exact(d0b ((Yh a).1 z1) (d:=(Ed a).2) (c:=(Du (Ed a).2).2) (un h rfl) (un h2 rfl)).1
end
section
open Go Go.Proofs Go.Maps Go.RowKit
attribute [local irreducible] Ed Kw Q4 Ab Wd Ra Tj
def Ou(a:Aut):PC prog 18 [encA a] (λr=>r= .tup [encA (Ab a).2,.i (Ab a).1]):=by
 refine pcB func18 results18 ntmps18 ?_;simp only[Qe];simp only[encA];obtain⟨R,hR⟩:∃R,Ab a=R:=⟨_,rfl⟩
 rw[hR];repeat(refine s_ ?_;simp)
 refine pcL (Tg a) ?_;simp;repeat(refine s_ ?_;simp)
 refine Qa rfl (λh=>?_) (λh=>?_)
 ·have h':Wd a≠0:=by simpa using h
  rw[q28 h']at hR;rw[<-hR];repeat(refine s_ ?_;simp)
  exact⟨rfl,rfl,rfl⟩
 have z8:Wd a=0:=by simpa using h
 repeat(refine s_ ?_;simp)
 refine pcL (Tx a) ?_;simp;repeat(refine s_ ?_;simp)
 refine Qa rfl (λh=>?_) (λh=>?_)
 ·have h':(Ed a).1≠0:=by simpa using h
  rw[x1c h']at hR;rw[<-hR];repeat(refine s_ ?_;simp)
  exact⟨rfl,rfl,rfl⟩
 have hd:(Ed a).1=0:=by simpa using h
 have zc:=λh=>q2y (a:=a) hd h;have zd:=λh=>k2n (a:=a) hd h;have ze:=λh=>f1u (a:=a) z8 hd h;generalize (Ed a).2=d at *
 repeat(refine s_ ?_;simp)
 refine pcL (q0v d) ?_;simp;repeat(refine s_ ?_;simp)
 refine Qa rfl (λh=>?_) (λh=>?_)
 ·have h':(Kw d).1≠0:=by simpa using h
  rw[zc h']at hR;rw[<-hR];repeat(refine s_ ?_;simp)
  exact⟨rfl,rfl,rfl⟩
 have hc:(Kw d).1=0:=by simpa using h
 have z7:=zd hc;have ha:=ze hc;rw[hR]at z7;clear zd ze zc;generalize (Kw d).2=c at *
 repeat(refine s_ ?_;simp)
 refine pcL (Ik c ha.ok) ?_;simp;refine pcL (q00 c ha) ?_;simp;repeat(refine s_ ?_;simp)
 have zj:=λ(m:Mv) (hm:m∈(Q4 c).mv)=>v1z ha hm;have zp:(Q4 c).mv.length<=2048:=yW (Mi ha) ha.ok.mvs;have zf:Hn (Q4 c)=(Q4 c).mv.any λk=>k.on.any λs=>decide (256<s.length):=rfl;have zk:(Q4 c).types=c.types:=Ju c;generalize Q4 c=m at *;refine Wb λZ hZ=>?_
 have z1:Z[1]?=some (.vars [.i 0,.nils,.nils]):=by rw[hZ];rfl
 have z4:Z[4]?=some (.vars (Ql m)):=by rw[hZ];rfl
 clear hZ;refine Qi (Qc (sl':=[(2,.vptr 1 0),(3,.i 0),(8,.vptr 4 0),(39,.list (m.mv.map encMv)),(40,.i m.mv.length),(41,.i (0:Nat))]) ?_ (by simp));refine Qj (P:=prog) (F:=λ(u:Nat×List AObj)=>⟨[(2,.vptr 1 0),(3,.i 0),(8,.vptr 4 0),(39,.list (m.mv.map encMv)),(40,.i m.mv.length),(41,.i u.1)],u.2⟩)
  (λu=>u.1<=m.mv.length/\u.2[1]?=some (.vars [.i 0,.nils,.nils])/\u.2[4]?=some (.vars (Ql m))/\∀k∈m.mv.take u.1,(k.on.any λs=>decide (256<s.length))=false) (λu=>m.mv.length - u.1) ?_ (0,Z) ⟨xP _,z1,z4,by simp⟩
 clear z1 z4;clear Z;rintro⟨j,Z⟩ ⟨hj,z1,z4,za⟩ ih;simp only at hj z1 z4 za ih |-;repeat(refine s_ ?_;simp)
 refine Qa rfl (λzl=>?_) (λzm=>?_)
 ·have z6:j<m.mv.length:=by simpa using zl
  have hw:=wz j (by omega);have zg:=zT z6;have z8:=zj _ zg;have zn:∀k∈m.mv.take (j+1),k∈m.mv.take j\/k=m.mv[j]:=λk hk=>by
   rw[zY z6]at hk;rcases yB.1 hk with h|h
   ·exact .inl h
   exact .inr (zV.1 h)
  have zh:(m.mv.map encMv)[j]?=some (encMv m.mv[j]):=by simp[z6]
  have zi:∀hh,(m.mv.map encMv)[j]'hh=encMv m.mv[j]:=λhh=>by simp
  generalize zq:m.mv[j]=k at *;simp only[encMv]at zh zi
  have z4s:∀E,(Z++E)[4]?=some (.vars (Ql m)):=λE=>Qb z4 E;have z4h:∀E hh,(Z++E)[4]'hh= .vars (Ql m):=λE hh=>(yI hh).2 (z4s E);repeat(refine s_ ?_;simp[zh,zi,z6,z4s,z4h])
  refine pcL (Di m.types k.on) ?_;simp;rw[zk];refine Wb λY hY=>?_;have y1:Y[1]?=some (.vars [.i 0,.nils,.nils]):=by rw[hY];exact Qb z1 _
  have y4:Y[4]?=some (.vars (Ql m)):=by rw[hY];exact Qb z4 _
  have yx:Y[Z.length]?=some (.vars [.i k.src,.i k.dst,.list (k.on.map encL)]):=by rw[hY,zO (by simp)];simp
  clear hY;have y1s:∀X,(Y.set 1 X)[1]?=some X:=λX=>Qg y1 X;refine Qa rfl (λh=>?_) (λh=>?_)
  ·have h':Hn m=true:=by
    rw[zf,List.any_eq_true];refine⟨k,zg,?_⟩;have h2:Ra c.types k.on≠0:=by simpa using h
    cases hb:k.on.any λs=>decide (256<s.length)with
    |true=>rfl
    |false=>exact absurd (z8.2 hb) h2
   rw[if_pos h']at z7;rw[z7];repeat(refine s_ ?_;simp[y1,y1s])
   exact⟨rfl,rfl,rfl⟩
  have h2:Ra c.types k.on=0:=by simpa using h
  repeat(refine s_ ?_;simp[hw])
  refine Qc (sl':=[(2,.vptr 1 0),(3,.i 0),(8,.vptr 4 0),(39,.list (m.mv.map encMv)),(40,.i m.mv.length),(41,.i (j+1:Nat))]) ?_ (by simp);refine ih (j+1,Y) ⟨by omega,y1,y4,λk' zo=>?_⟩ (by simp only;omega);rcases zn k' zo with e|rfl
  ·exact za k' e
  exact z8.1 h2
 have zb:j=m.mv.length:=by simp at zm;omega
 subst zb;rw[yR]at za;have h':Hn m=false:=by rw[zf,vI];exact λk hk=>by rw[za k hk];simp
 rw[h',if_neg (by simp)]at z7;rw[z7];have y1s:∀X,(Z.set 1 X)[1]?=some X:=λX=>Qg z1 X;repeat(refine s_ ?_;simp[z4,z1,y1s])
end
end Go.Abs
