/- Part Wj of the proof: steps on the way to the last part. No condition. -/
import Derived.Test.YtjmkolhkojgjpaaGreatDoorWi
import Derived.Test.YtjmkolhkojgjpaaGreatDoorWc
import Derived.Shelf.SlGeneric
import Derived.Ground.SlsfProg
import Derived.Shelf.SlSortCmp.WholeK
import Derived.Test.YtjmkolhkojgjpaaGreatDoorProg
import Derived.Test.YtjmkolhkojgjpaaGreatDoorWh
import Derived.Test.YtjmkolhkojgjpaaGreatDoorWg
import Derived.Test.YtjmkolhkojgjpaaGreatDoorWf
set_option linter.all false
open List renaming getD->yL,getElem?_append_right->zF,getElem?_append_left->zH,getElem?_set_ne->zE,getElem_eq_iff->zZ,getElem?_eq_getElem->zI,range->yQ,range_succ->wQ,flatMap_append->wV,filter_append->wZ,map_append->yR,map_map->vE,length_append->zW,length_filter_le->yW,mem_filter->xH,nodup_append->vL,map_id'->ss,mem_append->zV,mem_map->zO,append_nil->yV,append_assoc->xO,take_of_length_le->zT,drop_eq_getElem_cons->wD,take_append_drop->xI,getElem_mem->zL,take_succ_eq_append_getElem->zR,take_length->zY,getElem?_eq_some_iff->zB,mem_singleton->zP,mem_of_getElem?->zJ,getElem?_map->zU,set_append_right->vX,getElem?_set_self->zK,foldl_append->wJ,length_map->yE,all_eq_true->zX,map->uG,drop_length->xX,all_eq_false->uP,getElem?_eq_none->y_
open Nat renaming succ_mul->uK,le_trans->yP,mul_le_mul->vU,zero_le->xA,succ_le_succ->sc,le_of_lt->tr
open Bool renaming and_eq_true->z_,false_eq_true->uL,eq_iff_iff->x_
open Option renaming map_some->wC,map_eq_some_iff->zQ
set_option maxHeartbeats 16000000
set_option linter.unusedSimpArgs false
set_option maxRecDepth 100000
open Go.Proofs.Tryz
namespace Go.Abs
open Go Go.Proofs Go.Maps Go.RowKit
section
def w17{a b:Aut}{i j:Nat}(hi:i<a.fin.length)(hj:j<b.fin.length):Ys a b ((i:Int),(j:Int))=(a.fin[i] != b.fin[j]):=by unfold Ys;simp[yL,hi,hj]
def d1y{a b:Aut}(ha:OkA a)(hb:OkA b){s:Int×Int}{e:Sy×(Int×Int)}(he:e∈Ee a b s):inS a e.2.1/\inS b e.2.2:=by obtain⟨m,hm,n,hn,_,rfl⟩:=F3.1 he;have h1:=(ha.mv m (R7.1 hm).1).dst;have h2:=(hb.mv n (R7.1 hn).1).dst;exact⟨⟨h1.1,h1.2⟩,⟨h2.1,h2.2⟩⟩
def q0l{a b:Aut}(ha:OkA a)(hb:OkA b){s:Int×Int}(h:inS a s.1/\inS b s.2):okK s:=by have h1:=ha.fin;have h2:=hb.fin;obtain⟨⟨_,_⟩,⟨_,_⟩⟩:=h;unfold okK;omega
attribute [local irreducible] Wz Re Ot Ee Ys lkN
def j1l(a:Aut)(ha:OkA a)(H:List AObj)(A:Nat)(hA:H[A]?=some (.vars (Ww a)))(p q:Int)(hp:inS a p)(hq:inS a q):
  FC prog 227 [.i p,.i q,.vptr A 0] H (λr H'=>r= .bool (Ys a a (p,q))/\H'=H):=by
 refine fcB func227 results227 ntmps227 ?_;simp only[Qd];obtain⟨i,rfl⟩:∃i:Nat,p=i:=⟨p.toNat,(A3 hp).2.symm⟩
 obtain⟨j,rfl⟩:∃j:Nat,q=j:=⟨q.toNat,(A3 hq).2.symm⟩
 have hi:i<a.fin.length:=by have:=hp.2;omega
 have hj:j<a.fin.length:=by have:=hq.2;omega
 rw[w17 hi hj];simp only[Ww]at hA;repeat(refine s_ ?_;simp)
 refine drT [] (.pv 0 14 (.done)) ?_;simp[hA,hi,hj];repeat(refine s_ ?_;simp)
 generalize a.fin[i]=x;generalize a.fin[j]=y;cases x<;>cases y<;>rfl
def Nn(near:Gy)(d:Int)(es:List (Sy×(Int×Int))):Bool:=es.any λe=>(lkN near e.2).isSome && decide (((lkN near e.2).getD 0:Nat)=d)
def q14(near:Gy)(d:Int)(pre:List (Sy×(Int×Int)))(e:Sy×(Int×Int)):Nn near d (pre++[e])=(Nn near d pre || ((lkN near e.2).isSome && decide (((lkN near e.2).getD 0:Nat)=d))):=by simp[Nn]
def d0t{near:Gy}{d:Int}{pre post:List (Sy×(Int×Int))}{e:Sy×(Int×Int)}(h:((lkN near e.2).isSome && decide (((lkN near e.2).getD 0:Nat)=d))=true):Nn near d (pre++e::post)=true:=by unfold Nn;rw[List.any_append,List.any_cons,h];simp
def d1a(near:Gy)(d:Int):Nn near d []=false:=rfl
attribute [local irreducible] Nn
def f1f(a:Aut)(ha:OkA a)(H:List AObj)(A N M D:Nat)(near:Gy)(d:Nat)(hA:H[A]?=some (.vars (Ww a)))(hN:H[N]?=some (.vars [.mref M]))(hM:H[M]?=some (mpN near))(hD:H[D]?=some (.vars [.i d]))(hd:1<=d/\d<=1000000)(zb:NK near)(p q:Int)(hp:inS a p)(hq:inS a q):
  FC prog 228 [.i p,.i q,.vptr A 0,.vptr N 0,.vptr D 0] H (λr H'=>r= .bool (Nn near ((d:Int) - 1) (Ee a a (p,q)))/\∀i,i<H.length->H'[i]? =H[i]?):=by
 refine fcB func228 results228 ntmps228 ?_;simp only[Qd];have za:=hA;simp only[Ww]at za;have zl:=Qe hA;have zc:=Qe hN;have zd:=Qe hM;have ze:=Qe hD;have zf:∀L,(H++L)[A]?=some (.vars [.i a.types,.list (a.fin.map .bool),.list (a.mv.map encMv),.list (Ot a)]):=λL=>Qb za L;repeat(refine s_ ?_;simp[zf])
 refine pcL (f1s a a p q) ?_;simp;repeat(refine s_ ?_;simp)
 refine Eb rfl (Rf:=λ_ H'=>(Nn near ((d:Int) - 1) (Ee a a (p,q))=false/\(∃sl' ps' a' b',H'[H.length+1]?=some (.lp true none 34 sl' ps' a' b'))/\H'[H.length]?=some (.vars [.bool false])/\∀i,i<H.length->H'[i]? =H[i]?)\/
  (Nn near ((d:Int) - 1) (Ee a a (p,q))=true/\(∃sl' ps' a' b',H'[H.length+1]?=some (.lp false (some .ret) 34 sl' ps' a' b'))/\H'[H.length]?=some (.vars [.bool true])/\∀i,i<H.length->H'[i]? =H[i]?)) ?_ ?_
 ·simp;refine A9 λH1 z1=>?_;have f0:H1[H.length]?=some (.vars [.bool false]):=by rw[z1,zF (by omega)];simp
  have fk:∀i,i<H.length->H1[i]? =H[i]? :=λi hi=>by rw[z1,zH hi]
  have fl:=congrArg (λh:List AObj=>h[H.length+1]?) z1;have zm:H1.length=H.length+2:=by rw[z1];simp
  simp at fl;clear z1;refine FC.mono (f09 a a ha ha rfl p q hp hq (H.length+1) (by rfl) (by rfl)
   (λpre H'=>Nn near ((d:Int) - 1) pre=false/\H'[H.length+1]? =H1[H.length+1]? /\H'[H.length]?=some (.vars [.bool false])/\∀i,i<H.length->H'[i]? =H[i]?)
   (λc H'=>c= .ret/\Nn near ((d:Int) - 1) (Ee a a (p,q))=true/\(∃sl' ps' a' b',H'[H.length+1]?=some (.lp false (some .ret) 34 sl' ps' a' b'))/\H'[H.length]?=some (.vars [.bool true])/\∀i,i<H.length->H'[i]? =H[i]?) H1
   (λk H' ⟨_,h2,_,_⟩=>h2.trans fl) ?_ ?_ ⟨d1a _ _,rfl,f0,fk⟩) ?_
  ·rintro k H' L ⟨h1,h2,h3,h4⟩;exact⟨h1,by rw[<-h2,zH (by rw[fl]at h2;exact Qe h2)],Qb h3 _,λi hi=>by rw[zH (by have:=Qe h3;omega)];exact h4 i hi⟩
  ·rintro pre e post H' hst ⟨h1,h2,h3,h4⟩ hlen;simp[Rh];have zg:=d1y ha ha (show e∈Ee a a (p,q) by rw[hst];simp);have zh:=q0l ha ha zg;have zn:=Qe (h2.trans fl);have z6:=q14 near ((d:Int) - 1) pre e;have z7:=λh=>d0t (near:=near) (d:=(d:Int) - 1) (pre:=pre) (post:=post) (e:=e) h;rw[<-hst]at z7;rw[h1,Bool.false_or]at z6;have zz:=Qf (h2.trans fl) .dead;have z0:(H'.set (H.length+1) .dead)[H.length]?=some (.vars [.bool false]):=Qc (by omega) h3 _;have zk:∀i,i<H.length->(H'.set (H.length+1) .dead)[i]? =H[i]? :=λi hi=>by rw[zE (by omega)];exact h4 i hi
   have zv:∀i cs,H1.length<=i->H'[i]?=some (.vars cs)->(H'.set (H.length+1) .dead)[i]?=some (.vars cs):=λi cs hi hc=>by rw[zE (by omega)];exact hc
   have zi:(H'.set (H.length+1) .dead).length=H'.length:=by simp
   rw[<-zi];generalize H'.set (H.length+1) .dead=Z at *
   have zN:=(zk N zc).trans hN;have zM:=(zk M zd).trans hM;have zD:=(zk D ze).trans hD;have zNA:∀L,(Z++L)[N]?=some (.vars [.mref M]):=λL=>Qb zN L;have zMA:∀L,(Z++L)[M]?=some (mpN near):=λL=>Qb zM L;have zDA:∀L,(Z++L)[D]?=some (.vars [.i d]):=λL=>Qb zD L;have z0A:∀L,(Z++L)[H.length]?=some (.vars [.bool false]):=λL=>Qb z0 L;have z0H:∀L hh,(Z++L)[H.length]'hh= .vars [.bool false]:=λL hh=>(zZ hh).2 (z0A L);have zj:IntKind.i64.wrap ((d:Int) - 1)=d - 1:=wrap_i64 _ (by omega) (by omega);simp only[E8];repeat(refine s_ ?_;simp[zNA,zDA])
   refine I6 rfl rfl rfl rfl (s:=e.2) rfl (near:=near) (zMA _) zb zh ?_;simp;generalize lkN near e.2=lk at *
   cases lk with
   |none=>
    simp at z6;repeat(refine s_ ?_;simp[zDA])
    refine Qa rfl (λh=>by simp at h) (λ_=>?_);repeat(refine s_ ?_;simp)
    refine⟨Qb zz _,.inl ⟨rfl,⟨z6,?_,?_,λi hi=>?_⟩,λi cs hi hc=>?_⟩⟩
    ·rw[fl];exact Qf (Qb zz _) _
    ·exact z0A _
    ·rw[zE (by omega),zH (by omega)];exact zk i hi
    exact Qc (j:=H.length+1) (by omega) (Qb (zv i cs hi hc) _) _
   |some kd=>
    simp at z6 z7;repeat(refine s_ ?_;simp[zDA,zj])
    refine Qa rfl (λh=>?_) (λh=>?_)
    ·have z8:(kd:Int)=d - 1:=by simpa using h
     repeat(refine s_ ?_;simp[z0A,z0H])
     refine⟨Qc (j:=H.length) (by omega) (Qb zz _) _,.inr ⟨.ret,rfl,rfl,z7 z8,?_,?_,λi hi=>?_⟩⟩
     ·exact⟨_,_,_,_,Qf (Qc (j:=H.length) (by omega) (Qb zz _) _) _⟩
     ·exact Qf (z0A _) _
     rw[zE (by omega),zE (by omega),zH (by omega)];exact zk i hi
    have z8:¬(kd:Int)=d - 1:=by simpa using h
    repeat(refine s_ ?_;simp)
    refine⟨Qb zz _,.inl ⟨rfl,⟨by rw[z6,decide_eq_false z8],?_,?_,λi hi=>?_⟩,λi cs hi hc=>?_⟩⟩
    ·rw[fl];exact Qf (Qb zz _) _
    ·exact z0A _
    ·rw[zE (by omega),zH (by omega)];exact zk i hi
    exact Qc (j:=H.length+1) (by omega) (Qb (zv i cs hi hc) _) _
  rintro _ H' (⟨h1,h2,h3,h4⟩|⟨c,rfl,h1,h2,h3,h4⟩)
  ·exact .inl ⟨h1,⟨_,_,_,_,h2.trans fl⟩,h3,h4⟩
  exact .inr ⟨h1,h2,h3,h4⟩
 rintro _ H' (⟨h1,⟨sl',ps',a',b',h2⟩,h3,h4⟩|⟨h1,⟨sl',ps',a',b',h2⟩,h3,h4⟩)
 ·refine⟨true,none,34,sl',ps',a',b',by simpa using h2,?_⟩;simp;have z0:=Qc (j:=H.length+1) (by omega) h3 .dead;have z0H:∀hh,(H'.set (H.length+1) .dead)[H.length]'hh= .vars [.bool false]:=λhh=>(zZ hh).2 z0;rw[h1];have zk:∀i,i<H.length->(H'.set (H.length+1) .dead)[i]? =H[i]? :=λi hi=>by rw[zE (by omega)];exact h4 i hi
  generalize H'.set (H.length+1) .dead=Z at *
  repeat(refine s_ ?_;simp[z0,z0H,Qf z0])
  exact λi hi=>by rw[zE (by omega)];exact zk i hi
 refine⟨false,some .ret,34,sl',ps',a',b',by simpa using h2,?_⟩;simp;have z0:=Qc (j:=H.length+1) (by omega) h3 .dead;rw[h1];have zk:∀i,i<H.length->(H'.set (H.length+1) .dead)[i]? =H[i]? :=λi hi=>by rw[zE (by omega)];exact h4 i hi
 generalize H'.set (H.length+1) .dead=Z at *
 repeat(refine s_ ?_;simp[z0])
 exact zk
end
section
def d04{G K:List AObj}(h:∀i,i<G.length->K[i]? =G[i]?):∃E,K=G++E:=by
 refine⟨K.drop G.length,?_⟩;have hl:G.length<=K.length:=by
  by_cases h0:G.length=0
  ·omega
  have:=h (G.length - 1) (by omega);have h2:G[G.length - 1]?=some (G[G.length - 1]'(by omega)):=zI (by omega);rw[h2]at this;have:=Qe this;omega
 refine List.ext_getElem? λi=>?_;by_cases hi:i<G.length
 ·rw[zH hi];exact h i hi
 rw[zF (by omega),List.getElem?_drop]
 congr 1;omega
def fdR(n:Nat)(g:Int×Int->Bool)(i:Nat):List (Int×Int):=((yQ i).flatMap λx:Nat=>(yQ n).map λy:Nat=>((x:Int),(y:Int))).filter g
def fdC(g:Int×Int->Bool)(i j:Nat):List (Int×Int):=((yQ j).map λy:Nat=>((i:Int),(y:Int))).filter g
def u01(n:Nat)(g:Int×Int->Bool):fdR n g 0=[]:=by simp[fdR]
def v00(g:Int×Int->Bool)(i:Nat):fdC g i 0=[]:=by simp[fdC]
def q2z(n:Nat)(g:Int×Int->Bool)(i:Nat):fdR n g (i+1)=fdR n g i++fdC g i n:=by unfold fdR fdC;rw[wQ,wV,wZ];simp
def q2m(g:Int×Int->Bool)(i j:Nat):fdC g i (j+1)=fdC g i j++(if g ((i:Int),(j:Int))=true then [((i:Int),(j:Int))]else []):=by
 unfold fdC;rw[wQ,yR,wZ]
 congr 1
 rw[List.map_cons,List.map_nil,List.filter_cons,List.filter_nil]
def g2x(a:Aut)(g:Int×Int->Bool):fdR a.fin.length g a.fin.length=(Sl a a).filter g:=by
 unfold fdR Sl W9
 congr 1
 rw[List.flatMap_map];simp[vE,Function.comp_def]
def M3(n:Nat):∀i:Nat,((yQ i).map λ_:Nat=>n).sum=i * n
 |0=>by simp
 |i+1=>by rw[wQ,yR,List.sum_append,M3 n i];simp[uK]
def g2v(n:Nat)(g:Int×Int->Bool)(i j:Nat)(hi:i<=n)(hj:j<=n):(fdR n g i++fdC g i j).length<=n * n+n:=by
 rw[zW];have h1:(fdR n g i).length<=i * n:=by
  unfold fdR;refine yP (yW _ _) ?_;rw[List.length_flatMap];have:((yQ i).map λx:Nat=>((yQ n).map λy:Nat=>((x:Int),(y:Int))).length).sum=i * n:=by simpa using M3 n i
  omega
 have h2:(fdC g i j).length<=j:=by unfold fdC;refine yP (yW _ _) ?_;simp
 have:=Nat.mul_le_mul_right n hi;omega
def Zp(a:Aut)(near:Gy)(pf:Int×Int->Bool)(s:Int×Int):Bool:=(lkN near s).isNone && pf s
def Ni(a:Aut)(near:Gy)(pf:Int×Int->Bool):List (Int×Int):=(Sl a a).filter (Zp a near pf)
def C2{a:Aut}{near:Gy}{pf:Int×Int->Bool}{s:Int×Int}(h:s∈Ni a near pf):inP a s/\s∉near.map (·.1):=by obtain⟨h1,h2⟩:=xH.1 h;refine⟨v1r h1,H5.1 ?_⟩;unfold Zp at h2;simp only[z_,Option.isNone_iff_eq_none]at h2;exact h2.1
def x1d(a:Aut)(near:Gy)(pf:Int×Int->Bool):(Ni a near pf).Nodup:=(Xj a).filter _
def NK.round{a:Aut}(ha:OkA a){near:Gy}(h:NK near)(pf:Int×Int->Bool)(d:Nat){l r:List (Int×Int)}(he:Ni a near pf=l++r):NK (near++l.map λs=>(s,d)):=by
 have hl:∀s∈l,s∈Ni a near pf:=λs hs=>by rw[he];simp[hs]
 refine⟨?_,λe hm=>?_⟩
 ·rw[yR,vL];refine⟨h.nd,?_,λx hx y hy e=>?_⟩
  ·have:=x1d a near pf;rw[he,vL]at this;simpa[Function.comp_def]using this.1
  simp only[vE,Function.comp_def,ss]at hy;subst e;exact(C2 (hl _ hy)).2 hx
 rcases zV.1 hm with hm|hm
 ·exact h.ok e hm
 obtain⟨s,hs,rfl⟩:=zO.1 hm;exact q0l ha ha (C2 (hl s hs)).1
attribute [local irreducible] lkN Zp fdR fdC
def x0o (a:Aut) (ha:OkA a) (H:List AObj) (nC N M:Nat) (near:Gy) (d:Nat) (pf:Int×Int->Bool) (f:FuncId) (cs:List AV) (hn:H[nC]?=some (.vars [.i a.fin.length])) (hN:H[N]?=some (.vars [.mref M])) (hM:H[M]?=some (mpN near)) (zv:NK near)
  (zf:∀(p q:Int) (H':List AObj),inS a p->inS a q->(∀i,i<H.length->H'[i]? =H[i]?)->FC prog f ([]++[.i p,.i q]++cs) H' (λr K=>r= .bool (pf (p,q))/\∀i,i<H'.length->K[i]? =H'[i]?)):
  FC prog 226 [.i d,.fn (.func f) [] cs,.vptr nC 0,.vptr N 0] H (λr H'=>r= .bool (decide (0<(Ni a near pf).length))/\H'[M]?=some (mpN (near++(Ni a near pf).map λs=>(s,d)))/\∀i,i<H.length->i≠M->H'[i]? =H[i]?):=by
 refine fcB func226 results226 ntmps226 ?_;simp only[Qd];have za:=ha.fin;have yl:=Qe hn;have y7:=Qe hN;have y8:=Qe hM;have y9:=g2x a (Zp a near pf);have ya:=g2v a.fin.length (Zp a near pf);have yb:a.fin.length * a.fin.length<=65536:=yP (vU za.2 za.2) (by decide);repeat(refine s_ ?_;simp[hn])
 refine Qw 7 66 2 rfl ?_;simp;have hst:=SL.start H 66 2;refine lpW (F:=λ(u:Nat×Nat×List AObj)=>⟨[(0,.i d),(1,.fn (.func f) [] cs),(2,.vptr nC 0),(3,.vptr N 0),(6,.bool false),(7,.sl u.2.1 2 0 (fdR a.fin.length (Zp a near pf) u.1).length),(14,.i a.fin.length),(15,.i u.1)],u.2.2⟩)
  (λu=>u.1<=a.fin.length/\SL H u.2.2 u.2.1 66 2 ((fdR a.fin.length (Zp a near pf) u.1).map kyP)) (λu=>a.fin.length - u.1) ?_ (0,H.length,_) ⟨xA _,by rw[u01];exact hst⟩ (by simp[u01])
 rintro⟨i,q,G⟩ ⟨hi,hs⟩ ih;simp only at hi hs ih |-;repeat(refine s_ ?_;simp)
 refine Qa rfl (λyc=>?_) (λyd=>?_)
 ·have ye:i<a.fin.length:=by simpa using yc
  have hw:=wz i (by omega);have zw:=λq' G'=>ih (i+1,q',G');simp only[q2z]at zw;have gn:=hs.kp hn;repeat(refine s_ ?_;simp[gn])
  refine lpW (F:=λ(u:Nat×Nat×List AObj)=>⟨[(0,.i d),(1,.fn (.func f) [] cs),(2,.vptr nC 0),(3,.vptr N 0),(6,.bool false),(7,.sl u.2.1 2 0 (fdR a.fin.length (Zp a near pf) i++fdC (Zp a near pf) i u.1).length),(8,.i i),(14,.i a.fin.length),(15,.i i),(18,.i a.fin.length),(19,.i u.1)],u.2.2⟩)
   (λu=>u.1<=a.fin.length/\SL H u.2.2 u.2.1 66 2 ((fdR a.fin.length (Zp a near pf) i++fdC (Zp a near pf) i u.1).map kyP)) (λu=>a.fin.length - u.1) ?_ (0,q,G) ⟨xA _,by rw[v00,yV];exact hs⟩ (by simp[v00])
  clear hs gn;clear G q;rintro⟨j,q,G⟩ ⟨hj,hs⟩ ih2;simp only at hj hs ih2 |-;repeat(refine s_ ?_;simp)
  refine Qa rfl (λzg=>?_) (λzh=>?_)
  ·have zx:j<a.fin.length:=by simpa using zg
   have zi:=wz j (by omega);have z1:=λq' G'=>ih2 (j+1,q',G');simp only[q2m]at z1;have gN:=hs.kp hN;have gM:=hs.kp hM;have zy:inS a (i:Int):=⟨by omega,by omega⟩
   have zz:inS a (j:Int):=⟨by omega,by omega⟩
   have zj:okK ((i:Int),(j:Int)):=q0l ha ha ⟨zy,zz⟩;have ym:=ya i j hi hj;have yf:=hs.le;have zk:∀x,x<H.length->G[x]? =H[x]? :=λx hx=>by have h1:H[x]?=some H[x]:=zI hx;rw[h1];exact hs.kp h1
   have z7:Zp a near pf ((i:Int),(j:Int))=((lkN near ((i:Int),(j:Int))).isNone && pf ((i:Int),(j:Int))):=by unfold Zp;rfl
   repeat(refine s_ ?_;simp[gN])
   refine I6 rfl rfl rfl rfl (s:=((i:Int),(j:Int))) rfl (near:=near) gM zv zj ?_;simp;generalize hL:fdR a.fin.length (Zp a near pf) i++fdC (Zp a near pf) i j=L at *;simp only[<-xO,hL]at z1
   have zb:(fdR a.fin.length (Zp a near pf) i).length+(fdC (Zp a near pf) i j).length=L.length:=by rw[<-hL,zW]
   cases hlk:lkN near ((i:Int),(j:Int))with
   |some kd=>
    rw[hlk]at z7;simp at z7;simp only[z7,uL,if_false,yV]at z1;repeat(refine s_ ?_;simp)
    refine Wq rfl rfl ?_;simp;refine Qk rfl ?_;repeat(refine s_ ?_;simp[zi])
    exact Qo (z1 q G ⟨by omega,hs⟩ (by omega)) (by simp[zb])
   |none=>
    rw[hlk]at z7;simp at z7;repeat(refine s_ ?_;simp)
    refine Qm rfl rfl (zf i j G zy zz zk) rfl ?_;rintro _ K ⟨rfl,hK⟩;obtain⟨E,rfl⟩:=d04 hK;have z8:=hs.add E;generalize G++E=G2 at *
    simp;cases hpf:pf ((i:Int),(j:Int))with
    |true=>
     rw[hpf]at z7;simp only[z7,if_true]at z1;have y0:(L.map kyP).length=L.length:=by simp
     generalize zl:L.map kyP=acc at *;refine Qk rfl ?_
     repeat(refine s_ ?_;simp)
     refine apS T41 T66 ?_;simp[Qb z8.arr,Qg z8.arr,y0,zb];refine⟨by simp[Wo,Qb z8.arr,Qg z8.arr,y0,zb]<;>omega,?_⟩;repeat(refine s_ ?_;simp[zi])
     refine Qo (sl':=[(0,.i d),(1,.fn (.func f) [] cs),(2,.vptr nC 0),(3,.vptr N 0),(6,.bool false),(7,.sl (G2.length+1) 2 0 (L++[((i:Int),(j:Int))]).length),(8,.i i),(14,.i a.fin.length),(15,.i i),(18,.i a.fin.length),(19,.i (j+1:Nat))]) ?_ (by simp[zb]);refine z1 (G2.length+1) _ ⟨by omega,?_⟩ (by omega);have:=z8.put [AObj.arr 66 2 [kyP ((i:Int),(j:Int))]] (acc++[kyP ((i:Int),(j:Int))]) rfl;rw[show(L++[((i:Int),(j:Int))]).map kyP=acc++[kyP ((i:Int),(j:Int))] by rw[<-zl];simp];exact this
    |false=>
     rw[hpf]at z7;simp only[z7,uL,if_false,yV]at z1;refine Qk rfl ?_;repeat(refine s_ ?_;simp[zi])
     exact Qo (z1 q G2 ⟨by omega,z8⟩ (by omega)) (by simp[zb])
  have zc:j=a.fin.length:=by simp at zh;omega
  subst zc;repeat(refine s_ ?_;simp[hw])
  exact lkB (zw q G ⟨by omega,hs⟩ (by omega))
 have zm:i=a.fin.length:=by simp at yd;omega
 subst zm;rw[y9]at hs |-;have yg:(Sl a a).filter (Zp a near pf)=Ni a near pf:=rfl;rw[yg]at hs |-;have yn:(Ni a near pf).length<=65536:=by refine yP (yW _ _) ?_;rw[Pj];exact yb
 have y1:=λl r h=>zv.round ha pf d (l:=l) (r:=r) h;have y2:=λs h=>C2 (a:=a) (near:=near) (pf:=pf) (s:=s) h;have zn:=x1d a near pf;generalize Ni a near pf=L at *
 have zk:∀x,x<H.length->G[x]? =H[x]? :=λx hx=>by have h1:H[x]?=some H[x]:=zI hx;rw[h1];exact hs.kp h1
 have yf:=hs.le;have yo:H.length<=q:=hs.ge;refine kpA [(0,.i d),(3,.vptr N 0),(6,.bool false),(7,.sl q 2 0 L.length)] ?_;refine W3 q hs.arr ?_;simp[AV.fz];rw[zT (by simp)];have yk:∀x,x<H.length->(G.set q .dead)[x]? =H[x]? :=λx hx=>by rw[zE (by omega)];exact zk x hx
 generalize G.set q .dead=Y at *
 repeat(refine s_ ?_;simp)
 refine lpV (F:=λ(u:Nat×List AObj)=>⟨[(0,.i d),(3,.vptr N 0),(6,.bool false),(7,.list (L.map kyP)),(46,.list (L.map kyP)),(47,.i L.length),(48,.i u.1)],u.2⟩)
  (λu=>u.1<=L.length/\u.2[M]?=some (mpN (near++(L.take u.1).map λs=>(s,d)))/\∀i,i<H.length->i≠M->u.2[i]? =H[i]?) (λu=>L.length - u.1) ?_ (0,Y) ⟨xA _,by simpa using(yk M y8).trans hM,λi hi _=>yk i hi⟩
 clear yk;clear Y;rintro⟨k,Y⟩ ⟨hk,yM,yk⟩ ih3;simp only at hk yM yk ih3 |-;repeat(refine s_ ?_;simp)
 refine Qa rfl (λzo=>?_) (λzp=>?_)
 ·have z6:k<L.length:=by simpa using zo
  have yh:=wz k (by omega);have yi:N≠M:=λe=>by rw[e,hM]at hN;simp[mpN]at hN
  have y3:(L.map kyP)[k]?=some (kyP L[k]):=by simp[z6]
  have y4:∀hh,(L.map kyP)[k]'hh=kyP L[k]:=λhh=>by simp
  have zq:L.take k++L[k]::L.drop (k+1)=L:=by rw[<-wD z6,xI]
  have zr:=y1 (L.take k) (L[k]::L.drop (k+1)) zq.symm;have y5:=y2 L[k] (zL z6);have zj:=q0l ha ha y5.1;have zt:L[k]∉(near++(L.take k).map λs=>(s,d)).map (·.1):=by rw[yR,zV,not_or];refine⟨y5.2,λh=>?_⟩;simp only[vE,Function.comp_def,ss]at h;rw[<-zq,vL]at zn;exact zn.2.2 _ h _ List.mem_cons_self rfl
  have y6:(L.take (k+1)).map (λs=>(s,d))=(L.take k).map (λs=>(s,d))++[(L[k],d)]:=by rw[zR z6,yR];rfl
  have zd:=λG'=>ih3 (k+1,G');simp only[y6,<-xO]at zd;generalize L[k]=s at *;clear zq y6 zn y2 y1;generalize near++(L.take k).map (λs=>(s,d))=nr at *
  have yN:=(yk N y7 yi).trans hN;have yNA:∀E,(Y++E)[N]?=some (.vars [.mref M]):=λE=>Qb yN E;simp only[kyP]at y3 y4;repeat(refine s_ ?_;simp[y3,y4,z6,yNA])
  refine X6 rfl rfl rfl rfl (s:=s) rfl (d:=d) rfl (near:=nr) (Qb yM _) zr zj zt ?_;simp;repeat(refine s_ ?_;simp[yh])
  refine lkA [(0,.i d),(3,.vptr N 0),(6,.bool false),(7,.list (L.map kyP)),(46,.list (L.map kyP)),(47,.i L.length),(48,.i (k+1:Nat))] ?_;refine zd _ ⟨by omega,Qf (Qb yM _) _,λi hi zu=>?_⟩ (by omega);have yj:i<Y.length:=Qe ((yk i hi zu).trans (zI hi));rw[zE (Ne.symm zu),zH yj];exact yk i hi zu
 have ze:k=L.length:=by simp at zp;omega
 subst ze;rw[zY]at yM;repeat(refine s_ ?_;simp)
 exact⟨yM,yk⟩
end
section
attribute [simp] w3m
def Mk(a b:Aut)(s:Int×Int):PC prog 129 [encA a,encA b,pqr s] (λr=>r= .fn (.func 190) [] [.iptr (Qj a),.iptr [.i s.1,.i s.2],.iptr (Qj b)]):=by refine pcB func129 results129 ntmps129 ?_;simp only[Qd];simp only[encA,pqr];repeat(refine s_ ?_;simp)
def oS(s:Int):Option Mv->Int
 |some m=>m.src
 |none=>s
def oP:Option Mv->List AV
 |some m=>m.on.map encL
 |none=>[]
def v0b(s:Int)(o:Option Mv):Rm s o= .agg [.i (oS s o),.i (Fg o),.list (oP o)]:=by cases o<;>rfl
def ldR(a b:Aut)(s:Int×Int)(o:Option Mv)(k:Nat):List Stp:=((Ec b s.2).take k).filterMap (c1d a b s o)
def ldT(a b:Aut)(s:Int×Int)(i:Nat):List Stp:=((Ec a s.1).take i).flatMap λo=>ldR a b s o (Ec b s.2).length
def c09(a b:Aut)(s:Int×Int):ldT a b s (Ec a s.1).length=Np a b s:=by unfold ldT ldR Np;rw[zY,zY]
def x0p(a b:Aut)(s:Int×Int):ldT a b s 0=[]:=by simp[ldT]
def k1g(a b:Aut)(s:Int×Int)(o:Option Mv):ldR a b s o 0=[]:=by simp[ldR]
def v04(a b:Aut)(s:Int×Int){i:Nat}{o:Option Mv}(h:(Ec a s.1)[i]?=some o):ldT a b s (i+1)=ldT a b s i++ldR a b s o (Ec b s.2).length:=by obtain⟨hi,rfl⟩:=zB.1 h;unfold ldT;rw[zR hi,wV];simp
def g1w(a b:Aut)(s:Int×Int)(o:Option Mv){k:Nat}{r:Option Mv}(h:(Ec b s.2)[k]?=some r):ldR a b s o (k+1)=ldR a b s o k++(match Nr (w07 a b s o r)with|some x=>[(x,(Fg o,Fg r))]|none=>[]):=by
 obtain⟨hk,rfl⟩:=zB.1 h;unfold ldR;rw[zR hk,List.filterMap_append]
 congr 1
 simp only[List.filterMap_cons,List.filterMap_nil,c1g];cases Nr (w07 a b s o (Ec b s.2)[k])<;>rfl
def q1f(a b:Aut)(s:Int×Int)(o:Option Mv)(k:Nat):(ldR a b s o k).length<=k:=by unfold ldR;refine yP (List.length_filterMap_le _ _) ?_;rw[List.length_take];omega
def y0f(a b:Aut)(s:Int×Int):∀i,(ldT a b s i).length<=i * (Ec b s.2).length
 |0=>by rw[x0p];simp
 |i+1=>by
  have ih:=y0f a b s i;by_cases h:i<(Ec a s.1).length
  ·rw[v04 a b s (zI h),zW,uK];have:=q1f a b s (Ec a s.1)[i] (Ec b s.2).length;omega
  have e:ldT a b s (i+1)=ldT a b s i:=by unfold ldT;rw[zT (by omega),zT (by omega)]
  rw[e,uK];omega
def Hu{a:Aut}(ha:OkA a)(s:Int):(Ec a s).length<=2049/\0<(Ec a s).length:=by have h:(mvS a s).length<=a.mv.length:=yW _ _;have:=ha.mvs;unfold Ec;simp;omega
def v2o{a b:Aut}(ha:OkA a)(hb:OkA b)(s:Int×Int)(o:Option Mv){i k:Nat}(hi:i<(Ec a s.1).length)(hk:k<=(Ec b s.2).length):(ldT a b s i++ldR a b s o k).length<=4198401:=by
 have h1:=y0f a b s i;have h2:=q1f a b s o k;have h3:=(Hu ha s.1).1;have h4:=(Hu hb s.2).1;rw[zW];have h5:i * (Ec b s.2).length+(Ec b s.2).length<=2049 * 2049:=by rw[<-uK];exact vU (by omega) h4
 omega
def q12{a:Aut}(ha:OkA a){s:Int}{o:Option Mv}(h:o∈Ec a s):(∀p∈B1 o,PCk a.types.toNat p)/\(∀p∈Fe a s o,PCk a.types.toNat p)/\(B1 o).length<=1/\(Fe a s o).length<=2048:=by
 have hl:(mvS a s).length<=a.mv.length:=yW _ _;have:=ha.mvs;rcases Oa.1 h with rfl|⟨m,hm,rfl⟩
 ·refine⟨λp h=>(by cases h),λp hp=>?_,by simp[B1],by simp[Fe];omega⟩;obtain⟨m,hm,rfl⟩:=zO.1 hp;exact(ha.mv m (Tf.1 hm).1).on
 refine⟨λp hp=>?_,λp h=>(by cases h),by simp[B1],by simp[Fe]⟩;rw[zP.1 hp];exact(ha.mv m (Tf.1 hm).1).on
def y0e(p q:List Prd):P8 [p,q]=p++q:=by simp[P8]
attribute [local irreducible] Ec B1 Fe Np ldR ldT Nr Iy P8
def Z9 (a b:Aut) (ha:OkA a) (hb:OkA b) (ht:b.types=a.types) (yi:Dta a) (yj:Dta b) (s:Int×Int) (l:Nat) {z7:Nat} {sl':List (Nat×AV)} {ps:List Tmp} {asg body:Code} (yk:ps.length=1) (yl:(ps.all λp=>decide (p<z7))=true)
  (Inv:List Stp->List AObj->Prop) (Done:Code->List AObj->Prop) (H0:List AObj)
  (hI:∀k H,Inv k H->H[l]?=some (.lp true none z7 sl' ps asg body))
  (z8:∀k H L,Inv k H->Inv k (H++L))
  (zc:∀pre e post H,Iy a b s=pre++e::post->Inv pre H->H0.length<=H.length->AWP prog z7 H.length asg (Pf (AWP prog z7 H.length body (w0b l (λjm K2=>(jm=none/\Inv (pre++[e]) (K2.set l (.lp true none z7 sl' ps asg body))/\∀i cs,H0.length<=i->H[i]?=some (.vars cs)->(K2.set l (.lp true none z7 sl' ps asg body))[i]?=some (.vars cs))\/∃c,jm=some c/\Done c (K2.set l (.lp false (some c) z7 sl' ps asg body))))) (λ_ _=>False)) ⟨Rh sl' ps [E8 e],H.set l .dead⟩)
  (h0:Inv [] H0):FC prog 190 [.yld l,.iptr (Qj a),.iptr [.i s.1,.i s.2],.iptr (Qj b)] H0 (λ_ H'=>Inv (Iy a b s) H'\/∃c,Done c H'):=by
 refine fcB func190 results190 ntmps190 ?_;simp only[Qd];have cOa:=K1 a s.1 (by have:=ha.mvs;omega);have cOb:=K1 b s.2 (by have:=hb.mvs;omega);have ym:=Hu ha s.1;have yn:=Hu hb s.2;simp only[encA]at cOa cOb;repeat(refine s_ ?_;simp)
 refine drT [] (.pv 0 3 (.pv 4 3 (.one 3 (.one 7 (.val 8 (.val 9 (.done))))))) ?_;simp;refine pcL (cOa) ?_;simp;refine pcL (cOb) ?_;simp;repeat(refine s_ ?_;simp)
 refine Qw 5 184 4 rfl ?_;simp;have hst:=SL.start H0 184 4;have y3:=x0p a b s;refine lpW (F:=λ(u:Nat×Nat×List AObj)=>⟨[(0,.yld l),(1,.iptr (Qj a)),(2,.iptr [.i s.1,.i s.2]),(3,.iptr (Qj b)),(5,.sl u.2.1 4 0 (ldT a b s u.1).length),(6,.list ((Ec a s.1).map (Rm s.1))),(7,.list ((Ec b s.2).map (Rm s.2))),(28,.list ((Ec a s.1).map (Rm s.1))),(29,.i (Ec a s.1).length),(30,.i u.1)],u.2.2⟩)
  (λu=>u.1<=(Ec a s.1).length/\SL H0 u.2.2 u.2.1 184 4 ((ldT a b s u.1).map E8)) (λu=>(Ec a s.1).length - u.1) ?_ (0,H0.length,_) ⟨xA _,by rw[y3];simpa using hst⟩ (by simp[y3])
 rintro⟨i,q,G⟩ ⟨hi,g⟩ ih;simp only at hi g ih |-;repeat(refine s_ ?_;simp)
 refine Qa rfl (λyo=>?_) (λyp=>?_)
 ·have zd:i<(Ec a s.1).length:=by simpa using yo
  have hw:=wz i (by omega);obtain⟨o,ho⟩:∃o,(Ec a s.1)[i]?=some o:=⟨_,zI zd⟩
  have y4:=zJ ho;obtain⟨k1,k2,k3,k4⟩:=q12 ha y4;have yq:=v04 a b s ho;have y5:=λk h=>v2o ha hb s o (i:=i) (k:=k) zd h;have zv:=λq' G'=>ih (i+1,q',G');simp only[yq]at zv;have cSa:=q08 a s.1 i o ho (by have:=ha.mvs;omega);have zw:=λr h=>x2l ha hb ht (s:=s) (o:=o) (r:=r) y4 h;have y6:=λk r h=>g1w a b s o (k:=k) (r:=r) h;have y7:=k1g a b s o;have zl:((Ec a s.1).map (Rm s.1))[i]?=some (.agg [.i (oS s.1 o),.i (Fg o),.list (oP o)]):=by rw[zU,ho,wC,v0b]
  have zn:∀hh,((Ec a s.1).map (Rm s.1))[i]'hh= .agg [.i (oS s.1 o),.i (Fg o),.list (oP o)]:=λhh=>(zZ hh).2 zl;generalize oP o=vo at *;generalize ldT a b s i=A at *
  obtain⟨Bf,zm⟩:∃Bf:Nat->List Stp,∀k,Bf k=A++ldR a b s o k:=⟨_,λ_=>rfl⟩
  have y8:Bf 0=A:=by rw[zm,y7,yV]
  have yr:∀k r,(Ec b s.2)[k]?=some r->Bf (k+1)=Bf k++(match Nr (w07 a b s o r)with|some x=>[(x,(Fg o,Fg r))]|none=>[]):=λk r h=>by rw[zm,zm,y6 k r h,xO]
  have yt:∀k,k<=(Ec b s.2).length->(Bf k).length<=4198401:=λk h=>by rw[zm];exact y5 k h
  have y9:=zm (Ec b s.2).length;simp only[<-y9]at zv;clear zm y6 y7 y5 y9;repeat(refine s_ ?_;simp[zl,zn,zd])
  refine pcL (cSa) ?_;simp;repeat(refine s_ ?_;simp)
  refine Q3 λY hY=>?_;have yx:Y[G.length]?=some (.vars [.i (oS s.1 o),.i (Fg o),.list vo]):=by rw[hY,zF (by simp)];simp
  have gy:SL H0 Y q 184 4 ((Bf 0).map E8):=by rw[hY,y8];exact g.add _
  clear hY g;generalize G.length=x at *;clear G;clear zl zn;refine lpW (F:=λ(u:Nat×Nat×List AObj)=>⟨[(0,.yld l),(1,.iptr (Qj a)),(2,.iptr [.i s.1,.i s.2]),(3,.iptr (Qj b)),(5,.sl u.2.1 4 0 (Bf u.1).length),(6,.list ((Ec a s.1).map (Rm s.1))),(7,.list ((Ec b s.2).map (Rm s.2))),(9,.vptr x 0),(10,LP (B1 o)),(11,LP (Fe a s.1 o)),(28,.list ((Ec a s.1).map (Rm s.1))),(29,.i (Ec a s.1).length),(30,.i i),(41,.list ((Ec b s.2).map (Rm s.2))),(42,.i (Ec b s.2).length),(43,.i u.1)],u.2.2⟩)
   (λu=>u.1<=(Ec b s.2).length/\SL H0 u.2.2 u.2.1 184 4 ((Bf u.1).map E8)/\u.2.2[x]?=some (.vars [.i (oS s.1 o),.i (Fg o),.list vo])) (λu=>(Ec b s.2).length - u.1) ?_ (0,q,Y) ⟨xA _,gy,yx⟩ (by simp[y8])
  clear gy yx;clear Y q;rintro⟨k,q,Y⟩ ⟨hk,gy,yx⟩ ih2;simp only at hk gy yx ih2 |-;have x7:=yt k hk;repeat(refine s_ ?_;simp)
  refine Qa rfl (λze=>?_) (λzf=>?_)
  ·have z1:k<(Ec b s.2).length:=by simpa using ze
   have zr:=wz k (by omega);obtain⟨r,hr⟩:∃r,(Ec b s.2)[k]?=some r:=⟨_,zI z1⟩
   have ya:=zJ hr;obtain⟨j1,j2,j3,j4⟩:=q12 hb ya;have cSb:=q08 b s.2 k r hr (by have:=hb.mvs;omega);have hf:=zw r ya;have yu:=yr k r hr;have z6:=λq' G'=>ih2 (k+1,q',G');simp only[yu]at z6;have cL:=M1 a.types.toNat (by have:=ha.types;omega) (B1 o++B1 r) (Fe a s.1 o++Fe b s.2 r) (λp hp=>(zV.1 hp).elim (k1 p) (λh=>by rw[<-ht];exact j1 p h)) (λp hp=>(zV.1 hp).elim (k2 p) (λh=>by rw[<-ht];exact j2 p h)) (w07 a b s o r) hf;have yv:((a.types.toNat:Nat):Int)=a.types:=by have:=ha.types;omega
   rw[yv,z2h]at cL;have zg:((Ec b s.2).map (Rm s.2))[k]?=some (.agg [.i (oS s.2 r),.i (Fg r),.list (oP r)]):=by rw[zU,hr,wC,v0b]
   have zo:∀hh,((Ec b s.2).map (Rm s.2))[k]'hh= .agg [.i (oS s.2 r),.i (Fg r),.list (oP r)]:=λhh=>(zZ hh).2 zg;have cC1:=Xg [B1 o,B1 r] (by simp) (by rw[y0e,zW];omega);have cC2:=Xg [Fe a s.1 o,Fe b s.2 r] (by simp) (by rw[y0e,zW];omega);rw[y0e]at cC1 cC2;generalize oP r=vr at *;generalize Nr (w07 a b s o r)=Z at *;generalize Bf k=B at *
   repeat(refine s_ ?_;simp[zg,zo,z1])
   refine pcL (cSb) ?_;simp;repeat(refine s_ ?_;simp)
   generalize B1 o++B1 r=I2 at *;generalize Fe a s.1 o++Fe b s.2 r=O2 at *;generalize B1 o=Io at *;generalize B1 r=Ir at *;generalize Fe a s.1 o=Oo at *;generalize Fe b s.2 r=Or at *;refine Q3 λW hW=>?_
   have wx:W[x]?=some (.vars [.i (oS s.1 o),.i (Fg o),.list vo]):=by rw[hW];exact Qb yx _
   have wr:W[Y.length]?=some (.vars [.i (oS s.2 r),.i (Fg r),.list vr]):=by rw[hW,zF (by simp)];simp
   have gw:SL H0 W q 184 4 (B.map E8):=by rw[hW];exact gy.add _
   clear hW gy yx zg zo;generalize Y.length=y at *;clear Y
   have zh:∀(u z:AObj) (E:List AObj),(W++u::E).set W.length z=W++z::E:=λu z E=>by rw[vX _ _ (by simp)];simp
   have zi:∀(u v z:AObj) (E:List AObj),(W++u::v::E).set (W.length+1) z=W++u::z::E:=λu v z E=>by rw[vX _ _ (by simp)];simp
   have zj:∀(u v t z:AObj) (E:List AObj),(W++u::v::t::E).set (W.length+2) z=W++u::v::z::E:=λu v t z E=>by rw[vX _ _ (by simp)];simp
   have zx:∀(u:AObj) (E:List AObj),(W++u::E)[W.length]?=some u:=λu E=>by rw[zF (by simp)];simp
   have zy:∀(u v:AObj) (E:List AObj),(W++u::v::E)[W.length+1]?=some v:=λu v E=>by rw[zF (by simp)];simp
   have zz:∀(u v t:AObj) (E:List AObj),(W++u::v::t::E)[W.length+2]?=some t:=λu v t E=>by rw[zF (by simp)];simp
   refine kpA [(0,.yld l),(1,.iptr (Qj a)),(2,.iptr [.i s.1,.i s.2]),(3,.iptr (Qj b)),(5,.sl q 4 0 B.length),(6,.list ((Ec a s.1).map (Rm s.1))),(7,.list ((Ec b s.2).map (Rm s.2))),(9,.vptr x 0),(10,LP Io),(11,LP Oo),(13,.vptr y 0),(14,LP Ir),(15,LP Or),(28,.list ((Ec a s.1).map (Rm s.1))),(29,.i (Ec a s.1).length),(30,.i i),(41,.list ((Ec b s.2).map (Rm s.2))),(42,.i (Ec b s.2).length),(43,.i k)] ?_;refine Y0 (P:=prog) tOk mixed [15] (.val 0 (.val 1 (.val 2 (.val 3 (.val 6 (.val 7 (.three 4 (.three 5 (.two 8 (.two 9 (.two 10 (.val 11 (.val 12 (.val 13 (.one 14 (.one 15 (.val 16 (.done))))))) 14 (.one 10 (.val 11 (.val 12 (.val 13 (.one 15 (.val 16 (.done)))))))) 14 (.one 9 (.one 10 (.val 11 (.val 12 (.val 13 (.one 15 (.val 16 (.done))))))))) 14 (.one 8 (.one 9 (.one 10 (.val 11 (.val 12 (.val 13 (.one 15 (.val 16 (.done)))))))))) 8 (.two 5 (.two 9 (.two 10 (.val 11 (.val 12 (.val 13 (.one 14 (.one 15 (.val 16 (.done))))))) 14 (.one 10 (.val 11 (.val 12 (.val 13 (.one 15 (.val 16 (.done)))))))) 14 (.one 9 (.one 10 (.val 11 (.val 12 (.val 13 (.one 15 (.val 16 (.done))))))))) 14 (.one 5 (.one 9 (.one 10 (.val 11 (.val 12 (.val 13 (.one 15 (.val 16 (.done)))))))))) 14 (.two 5 (.one 8 (.one 9 (.one 10 (.val 11 (.val 12 (.val 13 (.one 15 (.val 16 (.done))))))))) 8 (.one 5 (.one 9 (.one 10 (.val 11 (.val 12 (.val 13 (.one 15 (.val 16 (.done))))))))))) 8 (.two 4 (.two 5 (.two 9 (.two 10 (.val 11 (.val 12 (.val 13 (.one 14 (.one 15 (.val 16 (.done))))))) 14 (.one 10 (.val 11 (.val 12 (.val 13 (.one 15 (.val 16 (.done)))))))) 14 (.one 9 (.one 10 (.val 11 (.val 12 (.val 13 (.one 15 (.val 16 (.done))))))))) 14 (.one 5 (.one 9 (.one 10 (.val 11 (.val 12 (.val 13 (.one 15 (.val 16 (.done)))))))))) 14 (.one 4 (.one 5 (.one 9 (.one 10 (.val 11 (.val 12 (.val 13 (.one 15 (.val 16 (.done))))))))))) 14 (.two 4 (.two 5 (.one 8 (.one 9 (.one 10 (.val 11 (.val 12 (.val 13 (.one 15 (.val 16 (.done))))))))) 8 (.one 5 (.one 9 (.one 10 (.val 11 (.val 12 (.val 13 (.one 15 (.val 16 (.done)))))))))) 8 (.one 4 (.one 5 (.one 9 (.one 10 (.val 11 (.val 12 (.val 13 (.one 15 (.val 16 (.done)))))))))))))))))) (λS'=>∃(c:Nat) (E:List AObj),S'.hp=W++E/\(W++E)[c]?=some (.vars [.i (Z.getD ⟨0,0⟩).ty,.i (Z.getD ⟨0,0⟩).num])/\look S'.sl 16=some (.vptr c 0)/\look S'.sl 17=some (.bool Z.isSome)/\look S'.sl 0=some (.yld l)/\look S'.sl 1=some (.iptr (Qj a))/\look S'.sl 2=some (.iptr [.i s.1,.i s.2])/\look S'.sl 3=some (.iptr (Qj b))/\look S'.sl 5=some (.sl q 4 0 B.length)/\look S'.sl 6=some (.list ((Ec a s.1).map (Rm s.1)))/\look S'.sl 7=some (.list ((Ec b s.2).map (Rm s.2)))/\look S'.sl 9=some (.vptr x 0)/\look S'.sl 10=some (LP Io)/\look S'.sl 11=some (LP Oo)/\look S'.sl 13=some (.vptr y 0)/\look S'.sl 28=some (.list ((Ec a s.1).map (Rm s.1)))/\look S'.sl 29=some (.i (Ec a s.1).length)/\look S'.sl 30=some (.i i)/\look S'.sl 41=some (.list ((Ec b s.2).map (Rm s.2)))/\look S'.sl 42=some (.i (Ec b s.2).length)/\look S'.sl 43=some (.i k)) rfl (by kernel_rfl) ?_ ?_
   ·have za:yQ 2=[0,1]:=rfl;simp[wx,wr,za]
    repeat' (first
     |refine And.intro ?_ ?_
     |(refine pcL cL ?_;simp[wx,wr,za])
     |(refine Qp W.length (zx _ _) ?_;simp[zh,zi,zj];refine pcL cC1 ?_;simp[wx,wr,za])
     |(refine Qp (W.length+1) (zy _ _ _) ?_;simp[zh,zi,zj];refine pcL cC1 ?_;simp[wx,wr,za])
     |(refine Qp (W.length+2) (zz _ _ _ _) ?_;simp[zh,zi,zj];refine pcL cC1 ?_;simp[wx,wr,za])
     |(refine Qp W.length (zx _ _) ?_;simp[zh,zi,zj];refine pcL cC2 ?_;simp[wx,wr,za])
     |(refine Qp (W.length+1) (zy _ _ _) ?_;simp[zh,zi,zj];refine pcL cC2 ?_;simp[wx,wr,za])
     |(refine Qp (W.length+2) (zz _ _ _ _) ?_;simp[zh,zi,zj];refine pcL cC2 ?_;simp[wx,wr,za]))
   rintro⟨sl,E0⟩ ⟨c,E,rfl,hc,s16,s17,s0,s1,s2,s3,s5,s6,s7,s9,s10,s11,s13,s28,s29,s30,s41,s42,s43⟩;simp only at s16 s17 s0 s1 s2 s3 s5 s6 s7 s9 s10 s11 s13 s28 s29 s30 s41 s42 s43;simp;refine Ru (sl':=[(0,.yld l),(1,.iptr (Qj a)),(2,.iptr [.i s.1,.i s.2]),(3,.iptr (Qj b)),(5,.sl q 4 0 B.length),(6,.list ((Ec a s.1).map (Rm s.1))),(7,.list ((Ec b s.2).map (Rm s.2))),(9,.vptr x 0),(10,LP Io),(11,LP Oo),(13,.vptr y 0),(16,.vptr c 0),(17,.bool Z.isSome),(28,.list ((Ec a s.1).map (Rm s.1))),(29,.i (Ec a s.1).length),(30,.i i),(41,.list ((Ec b s.2).map (Rm s.2))),(42,.i (Ec b s.2).length),(43,.i k)]) ?_ (by simp[s16,s17,s0,s1,s2,s3,s5,s6,s7,s9,s10,s11,s13,s28,s29,s30,s41,s42,s43]);clear s16 s17 s0 s1 s2 s3 s5 s6 s7 s9 s10 s11 s13 s28 s29 s30 s41 s42 s43 zh zi zj zx zy zz;have zt:=Qb wx E;have yw:=Qb wr E;have zk:=gw.add E;clear wx wr gw;generalize W++E=X at *;clear W E
   have yb:(B.map E8).length=B.length:=by simp
   cases Z with
   |none=>
    simp only[yV]at z6;repeat(refine s_ ?_;simp)
    refine Qa rfl (λh=>by simp at h) (λ_=>?_);repeat(refine s_ ?_;simp[zr])
    exact lkB (z6 q X ⟨by omega,zk,zt⟩ (by omega))
   |some z=>
    simp only[Option.getD_some]at hc;repeat(refine s_ ?_;simp)
    refine Qa rfl (λ_=>?_) (λh=>by simp at h);repeat(refine s_ ?_;simp[hc,zt,yw])
    refine apS q39 w3d ?_;simp[Qb zk.arr,Qg zk.arr,yb];refine⟨by simp[Wo,Qb zk.arr,Qg zk.arr,yb]<;>omega,?_⟩;repeat(refine s_ ?_;simp[zr])
    refine lkA [(0,.yld l),(1,.iptr (Qj a)),(2,.iptr [.i s.1,.i s.2]),(3,.iptr (Qj b)),(5,.sl (X.length+1) 4 0 (B++[(z,(Fg o,Fg r))]).length),(6,.list ((Ec a s.1).map (Rm s.1))),(7,.list ((Ec b s.2).map (Rm s.2))),(9,.vptr x 0),(10,LP Io),(11,LP Oo),(28,.list ((Ec a s.1).map (Rm s.1))),(29,.i (Ec a s.1).length),(30,.i i),(41,.list ((Ec b s.2).map (Rm s.2))),(42,.i (Ec b s.2).length),(43,.i (k+1:Nat))] ?_;have yy:x≠q:=λe=>by have:=zk.arr;rw[<-e,zt]at this;simp at this
    refine z6 (X.length+1) _ ⟨by omega,?_,Qb (Qc (Ne.symm yy) zt _) _⟩ (by omega);have y0:=zk.put [AObj.arr 184 4 [E8 (z,(Fg o,Fg r))]] ((B++[(z,(Fg o,Fg r))]).map E8) (n:=X.length+1) rfl;simpa[E8]using y0
  have yz:k=(Ec b s.2).length:=by simp at zf;omega
  subst yz;repeat(refine s_ ?_;simp[hw])
  exact lkB (zv q Y ⟨by omega,gy⟩ (by omega))
 have x0:i=(Ec a s.1).length:=by simp at yp;omega
 subst x0;rw[c09]at g |-;have zp:(Np a b s).length<=4198401:=by rw[<-c09];have h1:=y0f a b s (Ec a s.1).length;have h2:=vU ym.1 yn.1;omega
 have yc:=λ(L:List Stp) (h1:L.Perm (Np a b s)) (h2:L.Pairwise λx y=>w0u x y=true)=>d0f yi yj ht s h1 h2;generalize Np a b s=A at *
 repeat(refine s_ ?_;simp)
 refine Qm rfl rfl (d0h G q A g.arr (by omega)) rfl ?_;rintro _ _ ⟨rfl,A',hp,hs,rfl⟩;have y1:A'=Iy a b s:=yc A' hp (hs.imp λh=>by unfold w0u;rw[h];rfl);have zu:A'.length=A.length:=hp.length_eq;simp;have yd:=Qe g.arr;have y2:=g.ge;refine W3 q (zK yd) ?_;have ye:(A'.map E8).take A.length=A'.map E8:=zT (by simp[zu]);simp[AV.fz,ye,zu];rw[y1];have x1:(Iy a b s).length<=4198401:=by rw[<-y1,zu];exact zp
 have yf:∀j,j<H0.length->(G.set q .dead)[j]? =H0[j]? :=λj hj=>by rw[zE (by omega)];exact g.keep j hj
 obtain⟨E,hE⟩:=d04 yf;have hinv:=z8 [] H0 E h0;rw[<-hE]at hinv;have zb:H0.length<=(G.set q .dead).length:=by rw[hE];simp
 have hL:∀j (h:j<(Iy a b s).length),∃post,Iy a b s=(Iy a b s).take j++(Iy a b s)[j]::post:=λj h=>⟨(Iy a b s).drop (j+1),by rw[<-wD h,xI]⟩
 clear hE yf;clear hp hs zu y1 ye zp yc g yd y2;generalize G.set q .dead=Y at *;clear G E A A';generalize Iy a b s=L at *;refine kpA [(0,.yld l),(5,.list (L.map E8))] ?_
 repeat(refine s_ ?_;simp)
 refine lpV (F:=λ(u:Nat×List AObj)=>⟨[(0,.yld l),(83,.list (L.map E8)),(84,.i L.length),(85,.i u.1)],u.2⟩)
  (λu=>u.1<=L.length/\Inv (L.take u.1) u.2/\H0.length<=u.2.length) (λu=>L.length - u.1) ?_ (0,Y) ⟨xA _,by simpa using hinv,zb⟩
 clear hinv zb;clear Y;rintro⟨j,G⟩ ⟨hj,gv,yg⟩ ih2;simp only at hj gv yg ih2 |-;repeat(refine s_ ?_;simp)
 refine Qa rfl (λze=>?_) (λzf=>?_)
 ·have z1:j<L.length:=by simpa using ze
  have zr:=wz j (by omega);obtain⟨post,zq⟩:=hL j z1;have x2:L.take (j+1)=L.take j++[L[j]]:=zR z1;have z6:=λG'=>ih2 (j+1,G');simp only[x2]at z6;have zl:(L.map E8)[j]?=some (E8 L[j]):=by simp[z1]
  have zn:∀hh,(L.map E8)[j]'hh=E8 L[j]:=λhh=>by simp
  generalize L[j]=e at *;generalize L.take j=pre at *;simp only[E8]at zl zn
  repeat(refine s_ ?_;simp[zl,zn,z1])
  have yh:=z8 _ G [.vars [.i e.1.ty,.i e.1.num,.i e.2.1,.i e.2.2]] gv;have i1:=hI _ _ yh;have x3:=zc pre e post _ zq yh (by simp;omega);have x4:(G++[AObj.vars [.i e.1.ty,.i e.1.num,.i e.2.1,.i e.2.2]])[G.length]?=some (.vars [.i e.1.ty,.i e.1.num,.i e.2.1,.i e.2.2]):=by rw[zF (by simp)];simp
  generalize G++[AObj.vars [.i e.1.ty,.i e.1.num,.i e.2.1,.i e.2.2]]=Y at *;refine Tb rfl rfl (q:=l) rfl rfl i1 yk yl rfl (λjm K2=>(jm=none/\Inv (pre++[e]) (K2.set l (.lp true none z7 sl' ps asg body))/\∀i cs,H0.length<=i->Y[i]?=some (.vars cs)->(K2.set l (.lp true none z7 sl' ps asg body))[i]?=some (.vars cs))\/∃c,jm=some c/\Done c (K2.set l (.lp false (some c) z7 sl' ps asg body))) ?_ ?_
  ·exact x3
  rintro jm K2 (⟨rfl,hK,x5⟩|⟨c,rfl,hD⟩)
  ·simp;repeat(refine s_ ?_;simp)
   refine Qa rfl (λh=>by cases h) (λ_=>?_);repeat(refine s_ ?_;simp[zr])
   exact lkB (z6 _ ⟨by omega,hK,by have:=Qe (x5 _ _ yg x4);omega⟩ (by omega))
  simp;repeat(refine s_ ?_;simp)
  refine Qa rfl (λ_=>?_) (λh=>by cases h);repeat(refine s_ ?_;simp)
  exact .inr ⟨c,hD⟩
 have x6:j=L.length:=by simp at zf;omega
 subst x6;rw[zY]at gv;repeat(refine s_ ?_;simp)
 exact .inl gv
end
end Go.Abs
namespace Go.Proofs
open Go.Shelf
def Tryz.sortPr_ren:Go.Shelf.Ren:=⟨λ|6=>130|15=>199|14=>198|28=>244|29=>245|20=>236|21=>237|22=>238|23=>239|24=>240|25=>241|26=>242|27=>243|46=>291|47=>292|48=>293|49=>294|50=>295|57=>316|n=>n,λ|22=>41|24=>66|25=>188|3=>3|39=>189|0=>0|53=>255|55=>258|4=>4|46=>291|45=>290|50=>112|5=>5|9=>9|66=>327|70=>331|76=>349|77=>350|n=>n,λ|n=>n⟩
def Tryz.sortPr:Go.Proofs.SlLaysF0.n6 prog Tryz.sortPr_ren:={
 mixed:=by kernel_rfl
 f6:=⟨Tryz.f130.name,by decide,func130.trans (congrArg some (by kernel_rfl))⟩
 f14:=⟨Tryz.f198.name,by decide,func198.trans (congrArg some (by kernel_rfl))⟩
 f15:=func199.trans (congrArg some (by kernel_rfl))
 f20:=⟨Tryz.f236.name,by decide,func236.trans (congrArg some (by kernel_rfl))⟩
 f21:=⟨Tryz.f237.name,by decide,func237.trans (congrArg some (by kernel_rfl))⟩
 f22:=⟨Tryz.f238.name,by decide,func238.trans (congrArg some (by kernel_rfl))⟩
 f23:=⟨Tryz.f239.name,by decide,func239.trans (congrArg some (by kernel_rfl))⟩
 f24:=⟨Tryz.f240.name,by decide,func240.trans (congrArg some (by kernel_rfl))⟩
 f25:=⟨Tryz.f241.name,by decide,func241.trans (congrArg some (by kernel_rfl))⟩
 f26:=⟨Tryz.f242.name,by decide,func242.trans (congrArg some (by kernel_rfl))⟩
 f27:=⟨Tryz.f243.name,by decide,func243.trans (congrArg some (by kernel_rfl))⟩
 f28:=func244.trans (congrArg some (by kernel_rfl))
 f29:=func245.trans (congrArg some (by kernel_rfl))
 f46:=⟨Tryz.f291.name,by decide,func291.trans (congrArg some (by kernel_rfl))⟩
 f47:=func292.trans (congrArg some (by kernel_rfl))
 f48:=func293.trans (congrArg some (by kernel_rfl))
 f49:=⟨Tryz.f294.name,by decide,func294.trans (congrArg some (by kernel_rfl))⟩
 f50:=⟨Tryz.f295.name,by decide,func295.trans (congrArg some (by kernel_rfl))⟩
 f57:=⟨Tryz.f316.name,by decide,func316.trans (congrArg some (by kernel_rfl))⟩
 t0:=underlying0
 a0:=isAgg0
 z0:=sizeOf0
 v0:=zeroValue0
 t3:=underlying3
 a3:=isAgg3
 z3:=sizeOf3
 v3:=zeroValue3
 t4:=underlying4
 a4:=isAgg4
 z4:=sizeOf4
 v4:=zeroValue4
 t5:=underlying5
 a5:=isAgg5
 z5:=sizeOf5
 v5:=zeroValue5
 t9:=underlying9
 a9:=isAgg9
 z9:=sizeOf9
 v9:=zeroValue9
 t22:=underlying41
 a22:=isAgg41
 z22:=sizeOf41
 v22:=zeroValue41
 t25:=underlying188
 a25:=isAgg188
 z25:=sizeOf188
 v25:=zeroValue188
 t39:=underlying189
 a39:=isAgg189
 z39:=sizeOf189
 v39:=zeroValue189
 t45:=underlying290
 a45:=isAgg290
 z45:=sizeOf290
 v45:=zeroValue290
 t46:=underlying291
 a46:=isAgg291
 z46:=sizeOf291
 v46:=zeroValue291
 t50:=underlying112
 a50:=isAgg112
 z50:=sizeOf112
 v50:=zeroValue112
 t53:=underlying255
 a53:=isAgg255
 z53:=sizeOf255
 v53:=zeroValue255
 t55:=underlying258
 a55:=isAgg258
 z55:=sizeOf258
 v55:=zeroValue258
 t66:=underlying327
 a66:=isAgg327
 z66:=sizeOf327
 v66:=zeroValue327
 t70:=underlying331
 a70:=isAgg331
 z70:=sizeOf331
 v70:=zeroValue331
 t76:=underlying349
 a76:=isAgg349
 z76:=sizeOf349
 v76:=zeroValue349
 t77:=underlying350
 a77:=isAgg350
 z77:=sizeOf350
 v77:=zeroValue350 }
end Go.Proofs
namespace Go.Abs
section
open Go Go.Proofs Go.RowKit Go.Shelf Go.Lib Go.Sort
def Xl{w:World}{I:Nat->Prop}{v:Value}{k:IntKind}{n:Int}(h:PVR w I v (.int k n)):v= .int k n:=by cases h;rfl
def Hg(x:Int×Int):List Value:=[.int .i64 x.1,.int .i64 x.2]
def c2y(x y:Int×Int):ltOf z0k x y=j2c x y:=v09 x y
def f2c{w:World}{I:Nat->Prop}{l:List (Int×Int)}{F:Array Value}(hR:RowW w I 2 (l.map pqr) F):flatK Hg 2 l.toArray=F:=by
 have z1:F.size=l.length * 2:=by have:=hR.size;simpa using this
 refine ext_get! (by simp[z1]) λt ht=>?_;have z6:t<l.length * 2:=by simpa using ht
 rw[get_flatK _ _ _ _ (by simpa using z6)];have hi:t / 2<l.length:=by omega
 rw[getElem!_pos l.toArray _ (by simpa using hi)];have hx:(l.map pqr)[t / 2]?=some (pqr l[t / 2]):=by simp[hi]
 have c0:=Xl (hR.cell _ _ hx 0 _ rfl);have c1:=Xl (hR.cell _ _ hx 1 _ rfl);have e0:l.toArray[t / 2]'(by simpa using hi)=l[t / 2]:=by simp
 rw[e0];have hm:t % 2=0\/t % 2=1:=by omega
 rcases hm with h|h<;>rw[h]
 ·have e1:t / 2 * 2+0=t:=by omega
  rw[e1]at c0;rw[c0];rfl
 have e1:t / 2 * 2+1=t:=by omega
 rw[e1]at c1;rw[c1];rfl
def y1e(H:List AObj)(p:Nat)(l:List (Int×Int))(hp:H[p]?=some (.arr 66 2 (l.map pqr)))(hl:l.length<=100000000):
  FC prog 130 [.sl p 2 0 l.length,.fn (.func 131) [] []] H
   (λr H'=>r= .tup []/\∃l':List (Int×Int),l'.Perm l/\l'.Pairwise (λx y=>j2c y x=false)/\H'=H.set p (.arr 66 2 (l'.map pqr))):=by
 refine(y0k (xs:=l.map pqr) (Ts func130 rfl rfl) (by simp) hp [.func (.func 131) #[] #[]] (λw I m vs a b=>K4 _ w I m _ vs a b) (λz8=>∃l':List (Int×Int),l'.Perm l/\l'.Pairwise (λx y=>j2c y x=false)/\z8=l'.map pqr) ?_ ?_).mono ?_
 ·intro w I b cap F hE hI zc hR hH hb hc;by_cases z6:l=[]
  ·subst z6;refine Calls.mono (AnyF.slices_SortFunc_none Tryz.sortPr (some ⟨b,0,none⟩) cap _ w) ?_;rintro e w' ⟨rfl,rfl⟩;refine⟨rfl,[],F,0,#[],⟨[],.refl _,.nil,rfl⟩,rfl,hR,?_⟩;rw[grow_empty];exact(putRow_self id w' b 0 F hH).symm
  have zd:0<l.length:=List.length_pos_iff.2 z6;have eg:∀args w,(callFunc 131 args).run prog w= .ok (.enter 131 args) w:=enters_of func131 (by kernel_rfl) rfl;have ze:=f2c hR;have zf:HoldsK Hg 2 w b 0 l.toArray:=by unfold HoldsK;rw[ze];exact hH
  have z7:CmpLays prog 131 #[] Hg 2 z0k b 0 l.toArray.size w:=λq os dk hs x y=>by
   have hW:∀c,I c->(sortWorldK Hg 2 w b 0 q dk os).heap[c]? =w.heap[c]? :=λc za=>by have zg:=hI c za;have zh:b≠c:=λe=>zc (e▸za);simp only[sortWorldK,grow,putRowK,putRow,mapBlock,Sort.ahead];rw[Array.getElem?_append_left (by simpa using zg),Array.getElem?_modify,if_neg zh]
   have zb:∀z:Int×Int,PVR w I (.agg (Hg z).toArray) (pqr z):=λz=>by
    refine .agg _ _ (by simp[Hg]) λi v x' hv z1=>?_
    match i,hv,z1 with
    |0,hv,z1=>simp[Hg]at hv z1;subst hv z1;exact .int _ _
    |1,hv,z1=>simp[Hg]at hv z1;subst hv z1;exact .int _ _
    |k+2,hv,z1=>simp[Hg]at hv
   refine(k17 x y).laid hE hI hW (by simp) λi v x' hv z1=>?_
   match i,hv,z1 with
   |0,hv,z1=>simp at hv z1;subst hv z1;exact zb x
   |1,hv,z1=>simp at hv z1;subst hv z1;exact zb y
  have:=AnyQ.slices_SortFunc Tryz.sortPr 2 isAgg66 sizeOf66 Hg (λ_=>rfl) (λx v hv=>by simp[Hg]at hv;rcases hv with rfl|rfl<;>rfl) z0k v1q 131 #[] b 0 cap l.toArray w eg z7 zf hb (by simp;omega);rw[show(l.toArray).size=l.length by simp]at this;refine Calls.mono this ?_;rintro e w' ⟨rfl,d',n,os,h1,h2,rfl⟩;obtain⟨s1,_,s3⟩:=h1;have hs:d'.toList.length=l.length:=by simpa using s1
  refine⟨rfl,d'.toList.map pqr,flatK Hg 2 d',n,os,⟨d'.toList,?_,?_,rfl⟩,by simp[hs],⟨by simp,λx hx=>?_,λi x hx j y hy=>?_⟩,rfl⟩
  ·rw[show d'.extract 0 l.length=d' by simp[<-hs],show l.toArray.extract 0 l.length=l.toArray by simp]at s3;simpa using s3
  ·refine List.pairwise_iff_getElem.2 λi j hi hj zi=>?_;have:=h2 i j (xA _) zi (by omega);rw[c2y,getElem!_pos d' i (by simpa using hi),getElem!_pos d' j (by simpa using hj)]at this;simpa using this
  ·obtain⟨z,_,rfl⟩:=zO.1 hx;rfl
  rw[zU]at hx;obtain⟨z,hz,rfl⟩:=zQ.1 hx;obtain⟨hi,rfl⟩:=zB.1 hz;have hj:j<2:=(zB.1 hy).1;have zj:i<d'.size:=by simpa using hi
  rw[get_flatK _ _ _ _ (by omega)];rw[show(i * 2+j) / 2=i by omega,show(i * 2+j) % 2=j by omega];rw[getElem!_pos d' i zj]
  match j,hj,hy with
  |0,_,hy=>simp[pqr,AV.cells]at hy;subst hy;exact .int _ _
  |1,_,hy=>simp[pqr,AV.cells]at hy;subst hy;exact .int _ _
 ·rintro h;have z6:l=[]:=by
   cases l with
   |nil=>rfl
   |cons x r=>simp at h
  subst z6;exact⟨⟨[],.refl _,.nil,rfl⟩,λw=>AnyF.slices_SortFunc_none Tryz.sortPr none 0 _ w⟩
 rintro r H' ⟨rfl,z8,⟨l',h1,h2,rfl⟩,rfl⟩;exact⟨rfl,l',h1,h2,rfl⟩
end
section
open Go Go.Proofs Go.Maps Go.RowKit
structure ShI (a b:Aut) (L:List PQ) (V:List Vst) (q N i:Nat) (H:List AObj):Prop where
 ok:VOk V L
 di:DInv a b L
 h0:H[0]?=some (.vars (Qj a))
 h1:H[1]?=some (.vars (Qj b))
 h2:H[2]?=some (stQ (L.map (·.1)))
 h3:H[3]?=some (.vars [.mref 2])
 h5:H[5]?=some (.vars [.sl q 6 0 V.length])
 hq:H[q]?=some (.arr 176 6 (V.map Gi))
 hN:H[N]?=some (.vars [.i i])
 nl:5<N
def ShI.app{a b:Aut}{L:List PQ}{V:List Vst}{q N i:Nat}{H:List AObj}(h:ShI a b L V q N i H)(E:List AObj):ShI a b L V q N i (H++E):=
 ⟨h.ok,h.di,Qb h.h0 _,Qb h.h1 _,Qb h.h2 _,Qb h.h3 _,Qb h.h5 _,Qb h.hq _,Qb h.hN _,h.nl⟩
def ShI.setx{a b:Aut}{L:List PQ}{V:List Vst}{q N i:Nat}{H:List AObj}(h:ShI a b L V q N i H){j:Nat}(hj:5<j)(hq:j≠q)(hN:j≠N)(x:AObj):ShI a b L V q N i (H.set j x):=
 ⟨h.ok,h.di,Qc (by omega) h.h0 _,Qc (by omega) h.h1 _,Qc (by omega) h.h2 _,Qc (by omega) h.h3 _,Qc (by omega) h.h5 _,Qc hq h.hq _,Qc hN h.hN _,h.nl⟩
def ShI.cell{a b:Aut}{L:List PQ}{V:List Vst}{q N i:Nat}{H:List AObj}(h:ShI a b L V q N i H)(j:Nat):ShI a b L V q H.length j (H++[.vars [.i j]]):=
 ⟨h.ok,h.di,Qb h.h0 _,Qb h.h1 _,Qb h.h2 _,Qb h.h3 _,Qb h.h5 _,Qb h.hq _,by rw[zF (by simp)];simp,by have:=Qe h.hN;have:=h.nl;omega⟩
def ShI.qne{a b:Aut}{L:List PQ}{V:List Vst}{q N i:Nat}{H:List AObj}(h:ShI a b L V q N i H):q≠0/\q≠1/\q≠2/\q≠3/\q≠5/\q≠N:=by
 have hq:=h.hq;refine⟨λe=>?_,λe=>?_,λe=>?_,λe=>?_,λe=>?_,λe=>?_⟩
 ·rw[e,h.h0]at hq;simp at hq
 ·rw[e,h.h1]at hq;simp at hq
 ·rw[e,h.h2]at hq;simp[stQ]at hq
 ·rw[e,h.h3]at hq;simp at hq
 ·rw[e,h.h5]at hq;simp at hq
 rw[e,h.hN]at hq;simp at hq
def ShI.push {a b:Aut} {L:List PQ} {V:List Vst} {q N n:Nat} {H:List AObj} (h:ShI a b L V q N n H) {e:PQ} (hn:L[n]?=some e) {t:Int×Int} {x:Sy} (ht:inD a t.1/\inD b t.2) (z1:t∉L.map (·.1)) {Z:List AObj} {q':Nat} (hlen:H.length<=Z.length)
  (e2:Z[2]?=some (stQ (L.map (·.1)++[t]))) (e5:Z[5]?=some (.vars [.sl q' 6 0 (V.length+1)])) (eq:Z[q']?=some (.arr 176 6 (V.map Gi++[Gi ⟨t,n,x,false⟩]))) (ek:∀j,j≠2->j≠5->j≠q->j<H.length->Z[j]? =H[j]?):
  ShI a b (L++[(t,e.2++[x])]) (V++[⟨t,n,x,false⟩]) q' N n Z:=by
 obtain⟨n0,n1,n2,n3,n5,nN⟩:=h.qne;have z6:=h.nl;refine⟨h.ok.push hn t x,h.di.add ht z1,(ek 0 (by decide) (by decide) (Ne.symm n0) (Qe h.h0)).trans h.h0,(ek 1 (by decide) (by decide) (Ne.symm n1) (Qe h.h1)).trans h.h1,by rw[e2];simp,(ek 3 (by decide) (by decide) (Ne.symm n3) (Qe h.h3)).trans h.h3,by rw[e5];simp,by rw[eq];simp,(ek N (by omega) (by omega) (Ne.symm nN) (Qe h.hN)).trans h.hN,h.nl⟩
def v0k{a b:Aut}(ha:OkA a)(hb:OkA b){s:Int×Int}(h:inD a s.1/\inD b s.2):okQ s:=by
 have h1:=ha.fin;have h2:=hb.fin;unfold okQ;obtain⟨h3|h3,h4|h4⟩:=h
 ·omega
 ·have:=h4.1;have:=h4.2;omega
 ·have:=h3.1;have:=h3.2;omega
 have:=h3.1;have:=h3.2;have:=h4.1;have:=h4.2;omega
def DInv.okQ{a b:Aut}(ha:OkA a)(hb:OkA b){L:List PQ}(h:DInv a b L):∀s∈L.map (·.1),okQ s:=λs hs=>by obtain⟨e,he,rfl⟩:=zO.1 hs;exact v0k ha hb (h.rng e he)
def J8(w:List Sy):∀(es:List (Sy×(Int×Int))) (L:List PQ),∃E,Ra L w es=L++E
 |[],L=>⟨[],by simp[Ra]⟩
 |e::es,L=>by
  obtain⟨E,hE⟩:=J8 w es (f02 L e.2 (w++[e.1]));have h:Ra L w (e::es)=Ra (f02 L e.2 (w++[e.1])) w es:=rfl;rw[h,hE];unfold f02;split
  ·exact⟨E,rfl⟩
  exact⟨_,by rw[xO]⟩
def z02(L:List PQ)(w:List Sy)(es:List (Sy×(Int×Int)))(e:Sy×(Int×Int)):Ra L w (es++[e])=f02 (Ra L w es) e.2 (w++[e.1]):=by unfold Ra;rw[wJ];rfl
def y0b(r:Option (List Sy)×List PQ):AV:=match r.1 with
 |some w=> .tup [LSy w,.bool true,LQp []]
 |none=> .tup [LSy [],.bool false,LQp (Y8 (r.2.map (·.1)))]
def k2u{x y:Int×Int}(h:j2c y x=false):pLe x y=true:=by unfold j2c at h;unfold pLe;rw[<-Bool.not_eq_true]at h;simp only[Bool.or_eq_true,z_,decide_eq_true_eq]at *;omega
def c1u(a b:Aut)(wn:Bool->Bool->Bool):Lc a b wn=Xi (q06 wn a b) (Iy a b) ((a.fin.length+1) * (b.fin.length+1)+1) 0 [((0,0),[])]:=rfl
attribute [local irreducible] Iy Xi Ra v0u stQ Y8
def Fl(a b:Aut)(ha:Dta a)(hb:Dta b)(ht:b.types=a.types)(wn:Bool->Bool->Bool)(f:Nat)(zt:∀x y,PC prog f [.bool x,.bool y] (λr=>r= .bool (wn x y))):PC prog 67 [encA a,encA b,.fn (.func f) [] []] (λr=>r=y0b (Lc a b wn)):=by
 refine pcB func67 results67 ntmps67 ?_;simp only[Qd];simp only[encA];have y7:=ha.ok.fin;have y8:=hb.ok.fin;rw[c1u];obtain⟨R,hR⟩:∃R,Xi (q06 wn a b) (Iy a b) ((a.fin.length+1) * (b.fin.length+1)+1) 0 [((0,0),[])]=R:=⟨_,rfl⟩
 rw[hR];obtain⟨M,hM⟩:∃M,M=(a.fin.length+1) * (b.fin.length+1):=⟨_,rfl⟩
 have yx:M<=66049:=by rw[hM];exact yP (vU (sc y7.2) (sc y8.2)) (by decide)
 rw[<-hM]at hR;have hlen:=λL (h:DInv a b L)=>h.len;rw[<-hM]at hlen;repeat(refine s_ ?_;simp)
 refine Ea rfl rfl rfl ?_;simp;refine f0q rfl rfl rfl rfl (s:=(0,0)) rfl rfl rfl (by unfold okQ;decide) ?_;simp;repeat(refine s_ ?_;simp)
 have zu:ShI a b [((0,0),[])] [⟨(0,0),0,⟨0,0⟩,true⟩] 4 6 0 [.vars (Qj a),.vars (Qj b),stQ [(0,0)],.vars [.mref 2],.arr 176 6 [.agg [.i 0,.i 0,.i 0,.i 0,.i 0,.bool true]],.vars [.sl 4 6 0 1],.vars [.i 0]]:=
  ⟨VOk.start,DInv.start ha.ok hb.ok,rfl,rfl,rfl,rfl,rfl,rfl,rfl,by decide⟩
 have zv:∀s,q06 wn a b s=wn (v0u a s.1) (v0u b s.2):=λ_=>rfl;have zw:=λs e h=>u1r ha hb ht (s:=s) (e:=e) h;refine lpV (F:=λ(u:Nat×Nat×Nat×List PQ×List Vst×List AObj)=>⟨[(2,.fn (.func f) [] []),(3,.vptr 0 0),(4,.vptr 1 0),(9,.vptr 3 0),(10,.vptr 5 0),(11,.vptr u.2.1 0)],u.2.2.2.2.2⟩)
  (λu=>u.1<=u.2.2.2.1.length/\ShI a b u.2.2.2.1 u.2.2.2.2.1 u.2.2.1 u.2.1 u.1 u.2.2.2.2.2/\Xi (q06 wn a b) (Iy a b) (M+1 - u.1) u.1 u.2.2.2.1=R) (λu=>M+1 - u.1) ?_ (0,6,4,_,_,_) ⟨by simp,zu,hR⟩
 clear hR zu;rintro⟨i,N,q,L,V,H⟩ ⟨hi,hS,hB⟩ ih;simp only at hi hS hB ih |-;have yy:=hlen L hS.di;have yz:=hS.ok.len;have x0:=hS.nl;have y9:=hS.qne;repeat(refine s_ ?_;simp[hS.hN,hS.h5])
 refine Qa rfl (λya=>?_) (λyb=>?_)
 ·have ze:i<V.length:=by simpa using ya
  have hw:=wz i (by omega);obtain⟨v,hv⟩:∃v,V[i]?=some v:=⟨_,zI ze⟩
  obtain⟨⟨s,w⟩,he⟩:∃e,L[i]?=some e:=⟨_,zI (by omega)⟩
  have zx:=hS.ok.key i v _ hv he;have zj:=hS.di.rng _ (zJ he);simp only at zx zj;have cW:=f1q V L hS.ok i _ he (by omega);rw[show M+1 - i=(M - i)+1 by omega,y16 he,zv]at hB;have zc:(V.map Gi)[i]?=some (Gi v):=by rw[zU,hv];rfl
  have zf:∀hh,(V.map Gi)[i]'hh=Gi v:=λhh=>(zZ hh).2 zc;simp only[Gi,zx]at zc zf;have cFa:=q0i a s.1 zj.1;have cFb:=q0i b s.2 zj.2;have cWn:=zt (v0u a s.1) (v0u b s.2);have cLe:=Mk a b s;simp only[encA,pqr]at cFa cFb cLe;generalize wn (v0u a s.1) (v0u b s.2)=wv at *
  repeat(refine s_ ?_;simp[hS.hN,hS.h5,hS.hq,zc,zf,ze])
  have z8:=hS.app [.vars [.i s.1,.i s.2]];have zd:(H++[AObj.vars [.i s.1,.i s.2]])[H.length]?=some (.vars [.i s.1,.i s.2]):=by rw[zF (by simp)];simp
  have x1:=Qe hS.hN;clear hS;generalize H++[AObj.vars [.i s.1,.i s.2]]=Y at *;generalize H.length=x at *;clear H
  have y0:=z8.h0;have y1:=z8.h1;refine drT [] (.pv 0 4 (.pv 5 3 (.one 4 (.one 8 (.one 9 (.done)))))) ?_;simp[y0,y1,zd];refine pcL (cFa) ?_;simp[y0,y1,zd];refine pcL (cFb) ?_;simp[y0,y1,zd];refine pcL (cWn) ?_;simp[y0,y1,zd];refine Qa rfl (λhd=>?_) (λhd=>?_)
  ·rw[if_pos hd]at hB;subst hB;have y5:=z8.h5;have yN:=z8.hN;repeat(refine s_ ?_;simp[y5,yN])
   refine Cz q z8.hq 5 y5 (Ne.symm y9.2.2.2.2.1) rfl ?_;simp[AObj.fz,AV.fz];rw[zT (by simp)];refine pcL (cW) ?_;simp;repeat(refine s_ ?_;simp)
   rfl
  rw[if_neg (by rw[hd];simp)]at hB;repeat(refine s_ ?_;simp[y0,y1,zd])
  refine pcL (cLe) ?_;simp;refine kpA [(2,.fn (.func f) [] []),(3,.vptr 0 0),(4,.vptr 1 0),(9,.vptr 3 0),(10,.vptr 5 0),(11,.vptr N 0),(12,.vptr x 0),(49,.fn (.func 190) [] [.iptr (Qj a),.iptr [.i s.1,.i s.2],.iptr (Qj b)])] ?_;have x3:=Qe z8.hN;have x4:=Qe z8.hq;have yc:=Qe zd;repeat(refine s_ ?_;simp)
  refine Eb rfl (Rf:=λ_ H'=>∃q' V',ShI a b (Ra L w (Iy a b s)) V' q' N i H'/\Y.length<=H'.length/\∃sl' ps' a' b',H'[Y.length]?=some (.lp true none 84 sl' ps' a' b')) ?_ ?_
  ·simp;refine A9 λH1 zi=>?_;have fS:ShI a b L V q N i H1:=by rw[zi];exact z8.app _
   have fl:H1.length=Y.length+1:=by rw[zi];simp
   have fq:=congrArg (λh:List AObj=>h[Y.length]?) zi;simp at fq;clear zi;refine FC.mono (Z9 a b ha.ok hb.ok ht ha hb s Y.length (by rfl) (by rfl)
    (λpre K=>∃q' V',ShI a b (Ra L w pre) V' q' N i K/\K[Y.length]? =H1[Y.length]?) (λ_ _=>False) H1 (λpre K ⟨q',V',h1,h2⟩=>h2.trans fq)
    (λpre K E ⟨q',V',h1,h2⟩=>⟨q',V',h1.app E,by rw[<-h2,zH (Qe (h2.trans fq))]⟩) ?_ ⟨q,V,by rw[j0y];exact fS,rfl⟩) ?_
   ·rintro pre e post K heq ⟨q',V',zk,yd⟩ hlen1;simp[Rh];have h8:=yd.trans fq;have z1:Y.length≠q':=λe=>by have:=zk.hq;rw[<-e,h8]at this;simp at this
    have z6:Y.length≠N:=λe=>by have:=zk.hN;rw[<-e,h8]at this;simp at this
    have hd:=zk.setx (j:=Y.length) (by omega) z1 z6 .dead;have d6:=Qf h8 .dead;have dl:(K.set Y.length .dead).length=K.length:=by simp
    have zl:∀j,j≠Y.length->(K.set Y.length .dead)[j]? =K[j]? :=λj hj=>by rw[zE (Ne.symm hj)]
    generalize K.set Y.length .dead=Z at *
    have zm:=zw s e (by rw[heq];simp);obtain⟨E0,ye⟩:=J8 w pre L;have yf:(Ra L w pre)[i]?=some (s,w):=by rw[ye,zH (zB.1 he).1];exact he
    have zn:=z02 L w pre e;have zo:=hlen _ hd.di;have yg:=hd.ok.len;have zg:=hd.di.okQ ha.ok hb.ok;have za:=v0k ha.ok hb.ok zm;generalize Ra L w pre=L2 at *;rw[zn]
    obtain⟨⟨ty,num⟩,t⟩:=e;simp only[E8];simp only at zm za;have zy:∀E,ShI a b L2 V' q' N i (Z++E):=λE=>hd.app E;have z3:=λE=>(zy E).h3;have z2:=λE=>(zy E).h2;repeat(refine s_ ?_;simp[z3])
    refine y02 rfl rfl rfl rfl (s:=t) rfl (z2 _) zg za ?_;simp;repeat(refine s_ ?_;simp)
    by_cases hm:t∈L2.map (·.1)
    ·have hA:f02 L2 t (w++[⟨ty,num⟩])=L2:=if_pos hm;rw[hA];refine Qa rfl (λh=>by rw[decide_eq_true hm]at h;cases h) (λ_=>?_);repeat(refine s_ ?_;simp)
     refine⟨Qb d6 _,rfl,⟨⟨q',V',(hd.app _).setx (by omega) z1 z6 _⟩,by rw[fq];exact Qf (Qb d6 _) _⟩,λj cs hj hc=>?_⟩;have zb:j≠Y.length:=by omega
     exact Qc (Ne.symm zb) (Qb ((zl j zb).trans hc) _) _
    have hA:f02 L2 t (w++[⟨ty,num⟩])=L2++[(t,w++[⟨ty,num⟩])]:=if_neg hm;rw[hA];refine Qa rfl (λ_=>?_) (λh=>by rw[decide_eq_false hm]at h;cases h);repeat(refine s_ ?_;simp[z3])
    refine Zx rfl rfl rfl rfl (s:=t) rfl rfl (z2 _) zg za hm ?_;simp;refine Q3 λW hW=>?_;have x7:=Qe hd.h2;have yh:=Qe hd.h5;have yi:=Qe hd.hN;have yj:=Qe hd.hq;obtain⟨m0,m1,m2,m3,m5,mN⟩:=hd.qne;have w2:W[2]?=some (stQ (L2.map (·.1)++[t])):=by rw[hW,zK (by simp;omega)]
    have wt:W[Z.length]?=some (.vars [.i ty,.i num,.i t.1,.i t.2]):=by rw[hW,zE (by omega),zF (by simp)];simp
    have wk:∀j,j≠2->j<Z.length->W[j]? =Z[j]? :=λj h1 h2=>by rw[hW,zE (Ne.symm h1),zH h2]
    have wl:W.length=Z.length+1:=by rw[hW];simp
    have w5:=(wk 5 (by decide) yh).trans hd.h5;have wN:=(wk N (by omega) yi).trans hd.hN;have wq:=(wk q' m2 yj).trans hd.hq;have w6:=(wk Y.length (by omega) (Qe d6)).trans d6;clear hW;have zz:(V'.map Gi).length=V'.length:=by simp
    repeat(refine s_ ?_;simp[w5,wt,wN])
    have w5s:∀E,(W.set q' .dead++E)[5]?=some (.vars [.sl q' 6 0 V'.length]):=λE=>Qb (Qc m5 w5 _) _;refine apS w3f w3c ?_;simp[Qb wq,Qg wq,zz,w5s];refine⟨by simp[Wo,Qb wq,Qg wq,zz,w5s]<;>omega,?_⟩;repeat(refine s_ ?_;simp)
    obtain⟨X,hX⟩:∃X,X=(W.set q' .dead++[AObj.arr 176 6 [.agg [.i t.1,.i t.2,.i i,.i ty,.i num,.bool false]],AObj.arr 176 6 (V'.map Gi++[.agg [.i t.1,.i t.2,.i i,.i ty,.i num,.bool false]])]).set 5 (.vars [.sl (W.length+1) 6 0 (V'.length+1)]):=⟨_,rfl⟩
    rw[<-hX];have x8:W.length+1<X.length:=by rw[hX];simp
    have yk:Z.length<=X.length:=by omega
    have x2:X[2]?=some (stQ (L2.map (·.1)++[t])):=by rw[hX];exact Qc (by decide) (Qb (Qc m2 w2 _) _) _
    have x5:X[5]?=some (.vars [.sl (W.length+1) 6 0 (V'.length+1)]):=by rw[hX];exact Qf (w5s _) _
    have xq:X[W.length+1]?=some (.arr 176 6 (V'.map Gi++[Gi ⟨t,i,⟨ty,num⟩,false⟩])):=by rw[hX,zE (by omega),zF (by simp)];simp[Gi]
    have xk:∀j,j≠2->j≠5->j≠q'->j<Z.length->X[j]? =Z[j]? :=λj h1 h2 h3 h4=>by rw[hX,zE (Ne.symm h2),zH (by simp;omega),zE (Ne.symm h3)];exact wk j h1 h4
    clear hX;have zh:=hd.push yf zm hm (x:=⟨ty,num⟩) yk x2 x5 xq xk;have x6:X[Y.length]?=some .dead:=(xk _ (by omega) (by omega) z1 (Qe d6)).trans d6;refine⟨x6,rfl,⟨⟨W.length+1,V'++[⟨t,i,⟨ty,num⟩,false⟩],zh.setx (by omega) (by have:=Qe d6;omega) z6 _⟩,by rw[fq];exact Qf x6 _⟩,λj cs hj hc=>?_⟩;have zb:j≠Y.length:=by omega
    have yl:j≠q':=λe=>by rw[e]at hc zb;rw[zl _ zb |>.symm,hd.hq]at hc;cases hc
    exact Qc (Ne.symm zb) ((xk j (by omega) (by omega) yl (by have:=Qe hc;omega)).trans ((zl j zb).trans hc)) _
   rintro _ H' (⟨q',V',h1,h2⟩|⟨c,h⟩)
   ·exact⟨⟨q',V',h1⟩,tr (Qe (h2.trans fq)),_,_,_,_,h2.trans fq⟩
   exact h.elim
  rintro res H' ⟨q',V',h1,h2,sl',ps',a',b',h3⟩;refine⟨true,none,84,sl',ps',a',b',by simpa using h3,?_⟩;simp;have z1:Y.length≠q':=λe=>by have:=h1.hq;rw[<-e,h3]at this;simp at this
  have z6:Y.length≠N:=λe=>by have:=h1.hN;rw[<-e,h3]at this;simp at this
  have zp:=h1.setx (j:=Y.length) (by omega) z1 z6 .dead;obtain⟨E,hE⟩:=J8 w (Iy a b s) L;have x9:i<(Ra L w (Iy a b s)).length:=by rw[hE,zW];omega
  clear h1 h3;generalize H'.set Y.length .dead=Z at *;generalize Ra L w (Iy a b s)=L2 at *
  have dN:=zp.hN;have zo:=hlen L2 zp.di;repeat(refine s_ ?_;simp[dN,hw])
  exact lkB (ih (i+1,Z.length,q',L2,V',_) ⟨by simp only;omega,zp.cell (i+1),by rw[show M+1 - (i+1)=M - i by omega];exact hB⟩ (by simp only;omega))
 have ym:L.length<=i:=by simp at yb;omega
 rw[q1t (by rw[List.getElem?_eq_none_iff];omega)]at hB;subst hB;rw[show y0b (none,L)= .tup [.list [],.bool false,LQp (Y8 (L.map (·.1)))] from rfl];have yn:=hS.di.nd;have y2:=hS.ok.pairs;have yo:=hS.h5;have yp:=hS.hq;clear ih zw zv hlen zt;refine kpA [(10,.vptr 5 0)] ?_;repeat(refine s_ ?_;simp[yo])
 refine Qw 14 66 2 rfl ?_;simp;have hst:=SL.start H 66 2;refine lpV (F:=λ(u:Nat×Nat×List AObj)=>⟨[(14,.sl u.2.1 2 0 u.1),(69,.sl q 6 0 V.length),(70,.i V.length),(71,.i u.1)],u.2.2⟩)
  (λu=>u.1<=V.length/\SL H u.2.2 u.2.1 66 2 (((V.take u.1).map (·.s)).map pqr)) (λu=>V.length - u.1) ?_ (0,H.length,_) ⟨xA _,by simpa using hst⟩
 rintro⟨j,p,G⟩ ⟨hj,g⟩ ih;simp only at hj g ih |-;repeat(refine s_ ?_;simp)
 refine Qa rfl (λzq=>?_) (λzr=>?_)
 ·have z7:j<V.length:=by simpa using zq
  have yq:=wz j (by omega);have y3:(V.take (j+1)).map (·.s)=(V.take j).map (·.s)++[V[j].s]:=by rw[zR z7,yR];rfl
  have yr:((V.take j).map (·.s)).length=j:=by simp;omega
  have y4:=λq' G'=>ih (j+1,q',G');simp only[y3]at y4;have zc:(V.map Gi)[j]?=some (Gi V[j]):=by simp[z7]
  have zf:∀hh,(V.map Gi)[j]'hh=Gi V[j]:=λhh=>by simp
  clear y3;generalize (V.take j).map (·.s)=acc at *
  generalize V[j]=v at *
  have gq:=g.kp yp;have y6:(acc.map pqr).length=j:=by simp[yr]
  simp only[Gi]at zc zf;repeat(refine s_ ?_;simp[gq,zc,zf,z7])
  refine apS T41 T66 ?_;simp[Qb g.arr,Qg g.arr,y6];refine⟨by simp[Wo,Qb g.arr,Qg g.arr,y6]<;>omega,?_⟩;repeat(refine s_ ?_;simp[yq])
  refine lkA [(14,.sl (G.length+2) 2 0 (j+1)),(69,.sl q 6 0 V.length),(70,.i V.length),(71,.i (j+1:Nat))] ?_;have:=y4 (G.length+2) _ ⟨by omega,g.put [AObj.vars [.i v.s.1,.i v.s.2,.i v.fr,.i v.on.ty,.i v.on.num,.bool v.fst],AObj.arr 66 2 [pqr v.s]] ((acc++[v.s]).map pqr) rfl⟩ (by omega);simpa[pqr]using this
 have yt:j=V.length:=by simp at zr;omega
 subst yt;rw[zY,y2]at g;have yu:(L.map (·.1)).length=V.length:=by rw[<-y2];simp
 generalize L.map (·.1)=K at *
 rw[<-yu];repeat(refine s_ ?_;simp)
 refine Qm rfl rfl (y1e G p K g.arr (by omega)) rfl ?_;rintro _ _ ⟨rfl,K',hp,hs,rfl⟩;have yv:K'=Y8 K:=f0v yn hp (hs.imp λh=>k2u h);have yw:∀z,(G.set p z)[p]?=some z:=λz=>Qf g.arr z;have xa:K'.length=K.length:=hp.length_eq;simp;repeat(refine s_ ?_;simp[yw])
 rw[if_pos (by omega),zT (by simp;omega),yv];rfl
end
section
open Go Go.Proofs Go.Maps Go.RowKit
def c19(x y:Bool):PC prog 70 [.bool x,.bool y] (λr=>r= .bool (neB x y)):=by
 refine pcB func70 results70 ntmps70 ?_;simp only[Qd];repeat(refine s_ ?_;simp)
 cases x<;>cases y<;>rfl
def f1u(x y:Bool):PC prog 68 [.bool x,.bool y] (λr=>r= .bool (neB x y)):=by
 refine pcB func68 results68 ntmps68 ?_;simp only[Qd];repeat(refine s_ ?_;simp)
 cases x<;>cases y<;>rfl
def k16(x y:Bool):PC prog 87 [.bool x,.bool y] (λr=>r= .bool (x15 x y)):=by
 refine pcB func87 results87 ntmps87 ?_;simp only[Qd];repeat(refine s_ ?_;simp)
 cases x<;>cases y<;>rfl
def y2n(r:EqC×Int):AV:= .tup [g02 r.1,.i r.2]
def y14(r:(List Sy×Bool)×Int):AV:= .tup [LSy r.1.1,.bool r.1.2,.i r.2]
attribute [local irreducible] Yr Lc Y8 Y7 Em W7
def Xr(a b:Aut):PC prog 22 [encA a,encA b] (λr=>r=y2n (v0y a b)):=by
 refine pcB func22 results22 ntmps22 ?_;simp only[Qd];obtain⟨R,hR⟩:∃R,v0y a b=R:=⟨_,rfl⟩
 rw[hR];unfold v0y at hR;have cF:=Xw a b;have z6:Yr a b=0->Dfa a/\Dfa b/\b.types=a.types:=λh=>Px.1 h;have z7:Y7 a b=(Lc a b neB).2.map (·.1):=by unfold Y7;rfl
 rw[z7]at hR;simp only[encA]at cF |-;repeat(refine s_ ?_;simp)
 refine pcL (cF) ?_;simp;repeat(refine s_ ?_;simp)
 refine Qa rfl (λh=>?_) (λh=>?_)
 ·have h':Yr a b≠0:=by simpa using h
  rw[if_pos h']at hR;subst hR;repeat(refine s_ ?_;simp)
  rfl
 have h':Yr a b=0:=by simpa using h
 rw[if_neg (λk=>k h')]at hR;obtain⟨ha,hb,ht⟩:=z6 h';have cS:=Fl a b ⟨ha.ok,ha.det⟩ ⟨hb.ok,hb.det⟩ ht neB 70 c19;obtain⟨⟨ow,L⟩,hS⟩:∃p,Lc a b neB=p:=⟨_,rfl⟩
 rw[hS]at hR cS;simp only[encA]at cS;cases ow with
 |some w=>
  simp only at hR;subst hR;repeat(refine s_ ?_;simp)
  refine pcL (cS) ?_;simp[y0b];repeat(refine s_ ?_;simp)
  refine Qa rfl (λ_=>?_) (λh=>by simp at h);repeat(refine s_ ?_;simp)
  rfl
 |none=>
  simp only at hR;have z1:=d2e (L.map (·.1));have z8:((Y8 (L.map (·.1))).map pqr).length=(L.map (·.1)).length:=by rw[yE,z1]
  have cS2:PC prog 67 [.agg [.i a.types,.list (a.fin.map .bool),.list (a.mv.map encMv)],.agg [.i b.types,.list (b.fin.map .bool),.list (b.mv.map encMv)],.fn (.func 70) [] []] (λr=>r= .tup [.list [],.bool false,.list ((Y8 (L.map (·.1))).map pqr)]):=cS;generalize L.map (·.1)=K at *
  generalize Y8 K=K2 at *
  repeat(refine s_ ?_;simp)
  refine pcL (cS2) ?_;simp;repeat(refine s_ ?_;simp)
  refine Qa rfl (λh=>by simp at h) (λ_=>?_);repeat(refine s_ ?_;simp[z1])
  refine Qa rfl (λh=>?_) (λh=>?_)
  ·have h1:2048<K.length:=by simp at h;omega
   rw[if_pos h1]at hR;subst hR;repeat(refine s_ ?_;simp)
   rfl
  have h1:¬2048<K.length:=by simp at h;omega
  rw[if_neg h1]at hR;subst hR;repeat(refine s_ ?_;simp)
  rfl
def w2e(a b:Aut):Aut:=if Em a b≠0 then Yj else(W7 a).2
def w2r(a b:Aut):Aut:=if Em a b≠0 then Yj else if(W7 a).1≠0 then Yj else(W7 b).2
def u1e(a b:Aut):PC prog 66 [encA a,encA b] (λr=>r= .tup [encA (w2e a b),encA (w2r a b),.i (R5 a b)]):=by
 refine pcB func66 results66 ntmps66 ?_;simp only[Qd];have cB:=v0e a b;have cD:=T1 a;have cE:=T1 b;simp only[encA]at cB cD cE |-;obtain⟨X,hX⟩:∃X,w2e a b=X:=⟨_,rfl⟩
 obtain⟨Y,hY⟩:∃Y,w2r a b=Y:=⟨_,rfl⟩
 obtain⟨R,hR⟩:∃R,R5 a b=R:=⟨_,rfl⟩
 rw[hX,hY,hR];unfold w2e at hX;unfold w2r at hY;unfold R5 at hR;repeat(refine s_ ?_;simp)
 refine pcL (cB) ?_;simp;repeat(refine s_ ?_;simp)
 refine Qa rfl (λh=>?_) (λh=>?_)
 ·have h':Em a b≠0:=by simpa using h
  rw[if_pos h']at hX hY hR;subst hX;subst hY;subst hR;repeat(refine s_ ?_;simp)
  refine drT [3,4] (.val 0 (.val 2 (.two 1 (.one 3 (.one 4 (.val 5 (.done)))) 3 (.val 1 (.one 4 (.val 5 (.done))))))) ?_;simp;repeat(refine s_ ?_;simp)
  exact⟨rfl,rfl,rfl⟩
 have h':¬Em a b≠0:=by simpa using h
 rw[if_neg h']at hX hY hR;repeat(refine s_ ?_;simp)
 refine pcL (cD) ?_;simp;repeat(refine s_ ?_;simp)
 refine Qa rfl (λh2=>?_) (λh2=>?_)
 ·have z1:(W7 a).1≠0:=by simpa using h2
  rw[if_pos z1]at hY hR;subst hX;subst hY;subst hR;repeat(refine s_ ?_;simp)
  refine drT [3,4] (.val 0 (.val 2 (.two 1 (.one 3 (.one 4 (.val 5 (.done)))) 3 (.val 1 (.one 4 (.val 5 (.done))))))) ?_;simp;repeat(refine s_ ?_;simp)
  exact⟨rfl,rfl,rfl⟩
 rw[if_neg (by simpa using h2)]at hY hR;repeat(refine s_ ?_;simp)
 refine pcL (cE) ?_;simp;repeat(refine s_ ?_;simp)
 refine drT [3,4] (.val 0 (.val 2 (.two 1 (.one 3 (.one 4 (.val 5 (.done)))) 3 (.val 1 (.one 4 (.val 5 (.done))))))) ?_;simp;repeat(refine s_ ?_;simp)
 subst hX;subst hY;exact⟨⟨rfl,rfl,rfl⟩,⟨rfl,rfl,rfl⟩,hR⟩
def x0c{a b:Aut}(h:R5 a b=0):Dta (W7 a).2/\Dta (W7 b).2/\(W7 b).2.types=(W7 a).2.types/\w2e a b=(W7 a).2/\w2r a b=(W7 b).2:=by
 have hb:Em a b=0:=by
  by_cases k:Em a b=0
  ·exact k
  unfold R5 at h;rw[if_pos k]at h;exact absurd h k
 obtain⟨h1,h2,h3⟩:=E6.1 hb;obtain⟨d1,d2⟩:=(Lv hb).1 h;obtain⟨_,_,_,_,_,_,o1,o2,o3,_⟩:=Uu h1 (Ae d1);obtain⟨_,_,_,_,_,_,p1,p2,p3,_⟩:=Uu h2 (Ae d2);refine⟨⟨o1,o2⟩,⟨p1,p2⟩,by rw[p3,o3,h3],?_,?_⟩
 ·unfold w2e;rw[if_neg (by simpa using hb)]
 unfold w2r;rw[if_neg (by simpa using hb),if_neg (by simpa using d1)]
attribute [local irreducible] R5 w2e w2r
def O1(a b:Aut):PC prog 32 [encA a,encA b] (λr=>r=y14 (Nk a b)):=by
 refine pcB func32 results32 ntmps32 ?_;simp only[Qd];obtain⟨R,hR⟩:∃R,Nk a b=R:=⟨_,rfl⟩
 rw[hR];unfold Nk at hR;have cD:=u1e a b;have z1:R5 a b=0->_:=λh=>x0c h;simp only[encA]at cD |-;repeat(refine s_ ?_;simp)
 refine pcL (cD) ?_;simp;repeat(refine s_ ?_;simp)
 refine Qa rfl (λh=>?_) (λh=>?_)
 ·have h':R5 a b≠0:=by simpa using h
  rw[if_pos h']at hR;subst hR;repeat(refine s_ ?_;simp)
  rfl
 have h':R5 a b=0:=by simpa using h
 rw[if_neg (λk=>k h')]at hR;obtain⟨ha,hb,ht,hx,hy⟩:=z1 h';have cS:=Fl (W7 a).2 (W7 b).2 ha hb ht x15 87 k16;rw[<-hx,<-hy]at cS hR;generalize w2e a b=X at *;generalize w2r a b=Y at *
 obtain⟨⟨ow,L⟩,hS⟩:∃p,Lc X Y x15=p:=⟨_,rfl⟩
 rw[hS]at hR cS;simp only[encA]at cS;cases ow with
 |some w=>
  simp only at hR;subst hR;repeat(refine s_ ?_;simp)
  refine pcL (cS) ?_;simp[y0b];repeat(refine s_ ?_;simp)
  rfl
 |none=>
  simp only at hR;subst hR;repeat(refine s_ ?_;simp)
  refine pcL (cS) ?_;simp[y0b];repeat(refine s_ ?_;simp)
  rfl
def O0(a b:Aut):PC prog 21 [encA a,encA b] (λr=>r=y14 (Z6 a b)):=by
 refine pcB func21 results21 ntmps21 ?_;simp only[Qd];obtain⟨R,hR⟩:∃R,Z6 a b=R:=⟨_,rfl⟩
 rw[hR];unfold Z6 at hR;have cD:=u1e a b;have z1:R5 a b=0->_:=λh=>x0c h;simp only[encA]at cD |-;repeat(refine s_ ?_;simp)
 refine pcL (cD) ?_;simp;repeat(refine s_ ?_;simp)
 refine Qa rfl (λh=>?_) (λh=>?_)
 ·have h':R5 a b≠0:=by simpa using h
  rw[if_pos h']at hR;subst hR;repeat(refine s_ ?_;simp)
  rfl
 have h':R5 a b=0:=by simpa using h
 rw[if_neg (λk=>k h')]at hR;obtain⟨ha,hb,ht,hx,hy⟩:=z1 h';have cS:=Fl (W7 a).2 (W7 b).2 ha hb ht neB 68 f1u;rw[<-hx,<-hy]at cS hR;generalize w2e a b=X at *;generalize w2r a b=Y at *
 obtain⟨⟨ow,L⟩,hS⟩:∃p,Lc X Y neB=p:=⟨_,rfl⟩
 rw[hS]at hR cS;simp only[encA]at cS;cases ow with
 |some w=>
  simp only at hR;subst hR;repeat(refine s_ ?_;simp)
  refine pcL (cS) ?_;simp[y0b];repeat(refine s_ ?_;simp)
  rfl
 |none=>
  simp only at hR;subst hR;repeat(refine s_ ?_;simp)
  refine pcL (cS) ?_;simp[y0b];repeat(refine s_ ?_;simp)
  rfl
end
section
open Go Go.Proofs Go.Maps Go.RowKit
def x02(a b:Aut)(x:EqC):Sc a b x=if x.verdict≠1/\x.verdict≠2 then 1 else if(x.verdict=1/\0<x.word.length)\/(x.verdict=2/\0<x.pairs.length)then 3 else g1z a b x:=by
 unfold Sc g1z
 congr
def c1k{a b:Aut}{x:EqC}(h:g1z a b x=0):x.pairs.length<=2048/\x.word.length<=4096/\(∀s∈x.pairs,inS a s.1/\inS b s.2)/\w0t a.types x.word=0:=by
 unfold g1z at h;by_cases h1:2048<x.pairs.length\/4096<x.word.length
 ·rw[if_pos h1]at h;cases h
 rw[if_neg h1]at h;by_cases h2:x.pairs.all (λs=>decide (inS a s.1/\inS b s.2))=false
 ·rw[if_pos h2]at h;cases h
 rw[if_neg h2]at h;rw[Bool.not_eq_false,zX]at h2;exact⟨by omega,by omega,λs hs=>by simpa using h2 s hs,h⟩
attribute [local irreducible] Yr g1z L9 Eo
def v1t(w:List Sy):PC prog 83 [LSy w,LSy w] (λr=>r= .bool true):=by
 refine pcB func83 results83 ntmps83 ?_;simp only[Qd];refine Y5 0 rfl (λhlen=>?_);rw[yE]at hlen;repeat(refine s_ ?_;simp)
 refine Qa rfl (λh=>by simp at h) (λ_=>?_);repeat(refine s_ ?_;simp)
 refine Qr w.length (λ_=>True) (λj=>[(0,LSy w),(1,LSy w),(4,.bool false),(5,.i j)]) (λ_=>[]) rfl (by simp) (by simp) (by simp) (by simp) trivial ?_;intro j hj _ ih;repeat(refine s_ ?_;simp)
 refine Qa rfl (λza=>?_) (λzb=>?_)
 ·have z1:j<w.length:=by simpa using za
  have hw:=wz j (by omega);have z7:(w.map encSy)[j]?=some (encSy w[j]):=by simp[z1]
  have z8:∀hh,(w.map encSy)[j]'hh=encSy w[j]:=λhh=>by simp
  generalize w[j]=x at *;simp only[encSy]at z7 z8
  repeat(refine s_ ?_;simp)
  refine drT [] (.pv 0 9 (.done)) ?_;simp[z7,z8,z1];refine Qa rfl (λh=>by simp at h) (λ_=>?_);repeat(refine s_ ?_;simp[hw])
  refine Qt _ (ih z1 trivial) rfl (by simp) ?_ (by simp) (by simp);simp
 have z6:j=w.length:=by simp at zb;omega
 subst z6;repeat(refine s_ ?_;simp)
def x0g(x:EqC):PC prog 30 [g02 x,g02 x] (λr=>r= .bool true):=by
 refine pcB func30 results30 ntmps30 ?_;simp only[Qd];obtain⟨v,ps,w⟩:=x;simp only[g02];refine Wv 0 1 rfl rfl (λhlen=>?_);rw[yE]at hlen;repeat(refine s_ ?_;simp)
 refine pcL (v1t w) ?_;simp;repeat(refine s_ ?_;simp)
 refine Qa rfl (λh=>by simp at h) (λ_=>?_);repeat(refine s_ ?_;simp)
 refine Qr ps.length (λ_=>True) (λj=>[(2,.vptr 0 0),(3,.vptr 1 0),(4,.bool false),(5,.i j)]) (λ_=>[.vars [.i v,LQp ps,LSy w],.vars [.i v,LQp ps,LSy w]]) rfl (by simp) (by simp) (by simp) (by simp) trivial ?_;intro j hj _ ih;repeat(refine s_ ?_;simp)
 refine Qa rfl (λza=>?_) (λzb=>?_)
 ·have z1:j<ps.length:=by simpa using za
  have hw:=wz j (by omega);have z7:(ps.map pqr)[j]?=some (pqr ps[j]):=by simp[z1]
  have z8:∀hh,(ps.map pqr)[j]'hh=pqr ps[j]:=λhh=>by simp
  generalize ps[j]=x at *;simp only[pqr]at z7 z8
  repeat(refine s_ ?_;simp)
  refine drT [] (.pv 0 11 (.done)) ?_;simp[z7,z8,z1,f2w];refine Qa rfl (λh=>by simp at h) (λ_=>?_);repeat(refine s_ ?_;simp[hw])
  refine Qt _ (ih z1 trivial) rfl (by simp) ?_ (by simp) (by simp);simp
 have z6:j=ps.length:=by simp at zb;omega
 subst z6;repeat(refine s_ ?_;simp)
end
section
open Go Go.Proofs Go.Maps Go.RowKit
def Di(a:Aut)(n:Int):PC prog 135 [encA a,.i n] (λr=>r= .bool (decide (inS a n))):=by
 refine pcB func135 results135 ntmps135 ?_;simp only[Qd];simp only[encA];refine Wv 0 1 rfl rfl (λhl=>?_);rw[yE]at hl;unfold inS;rcases f1x a.fin.length n with⟨c1,c2⟩|⟨c1,c2,c3⟩|⟨c1,c2,c3⟩
 ·have e1:decide (0<=n)=false:=by simpa using c1
  repeat(refine s_ ?_;simp[e1])
  exact decide_eq_false c2
 ·have e1:decide (0<=n)=true:=by simpa using c1
  have e2:decide (n<(a.fin.length:Int))=false:=by simpa using c2
  repeat(refine s_ ?_;simp[e1,e2])
  exact decide_eq_false c3
 have e1:decide (0<=n)=true:=by simpa using c1
 have e2:decide (n<(a.fin.length:Int))=true:=by simpa using c2
 repeat(refine s_ ?_;simp[e1,e2])
 exact decide_eq_true c3
def Gq(a b:Aut)(p q:Int):decide (inS a p/\inS b q)=(decide (inS a p) && decide (inS b q)):=by rw[x_,z_,decide_eq_true_eq,decide_eq_true_eq,decide_eq_true_eq]
attribute [local irreducible] Zg Wt Nj inS
def d0i(a b:Aut)(x:EqC)(hT:1<=a.types/\a.types<=16):PC prog 71 [encA a,encA b,g02 x] (λr=>r= .i (Sc a b x)):=by
 refine pcB func71 results71 ntmps71 ?_;simp only[Qd];simp only[encA,g02];refine Wv 2 1 rfl rfl (λzk=>?_);refine Wv 2 2 rfl rfl (λzl=>?_);rw[yE]at zk zl;obtain⟨v,ps,w⟩:=x;simp only at zk zl |-;obtain⟨R,hR⟩:∃R,Sc a b ⟨v,ps,w⟩=R:=⟨_,rfl⟩
 rw[hR];rw[x02]at hR;simp only at hR;by_cases hv:v≠1/\v≠2
 ·rw[if_pos hv]at hR;subst hR;have b1:(v != 1)=true:=by simpa using hv.1
  have b2:(v != 2)=true:=by simpa using hv.2
  repeat(refine s_ ?_;simp[b1,b2])
  refine Qa rfl (λ_=>?_) (λh=>by simp at h);repeat(refine s_ ?_;simp)
 rw[if_neg hv]at hR;by_cases hn:(v=1/\0<w.length)\/(v=2/\0<ps.length)
 ·rw[if_pos hn]at hR;subst hR;rcases hn with⟨rfl,h0⟩|⟨rfl,h0⟩
  ·repeat(refine s_ ?_;simp)
   refine Qa rfl (λh=>by simp at h) (λ_=>?_);repeat(refine s_ ?_;simp[h0])
   refine Qa rfl (λ_=>?_) (λh=>by first|(simp at h;done)|(simp at h;omega));repeat(refine s_ ?_;simp)
  repeat(refine s_ ?_;simp)
  refine Qa rfl (λh=>by simp at h) (λ_=>?_);repeat(refine s_ ?_;simp[h0])
  refine Qa rfl (λ_=>?_) (λh=>by first|(simp at h;done)|(simp at h;omega));repeat(refine s_ ?_;simp)
 rw[if_neg hn]at hR;have zm:v=1\/v=2:=by omega
 rcases zm with rfl|rfl
 ·have zn:¬0<w.length:=λh=>hn (.inl ⟨rfl,h⟩);have zo:decide (0<w.length)=false:=decide_eq_false zn;repeat(refine s_ ?_;simp)
  refine Qa rfl (λh=>by simp at h) (λ_=>?_);repeat(refine s_ ?_;simp[zo])
  refine Qa rfl (λh=>by first|(simp at h;done)|(simp at h;omega)) (λ_=>?_);repeat(refine s_ ?_;simp)
  unfold g1z at hR;simp only at hR;by_cases h1:2048<ps.length
  ·rw[if_pos (.inl h1)]at hR;subst hR;have d1:decide ((2048:Int)<ps.length)=true:=by simp;omega
   repeat(refine s_ ?_;simp[d1])
   refine Qa rfl (λ_=>?_) (λh=>by first|(simp at h;done)|(simp at h;omega));repeat(refine s_ ?_;simp)
  have d1:decide ((2048:Int)<ps.length)=false:=by simp;omega
  by_cases h2:4096<w.length
  ·rw[if_pos (.inr h2)]at hR;subst hR;repeat(refine s_ ?_;simp[d1])
   refine Qa rfl (λ_=>?_) (λh=>by first|(simp at h;done)|(simp at h;omega));repeat(refine s_ ?_;simp)
  rw[if_neg (by omega)]at hR;repeat(refine s_ ?_;simp[d1])
  refine Qa rfl (λh=>by first|(simp at h;done)|(simp at h;omega)) (λ_=>?_);repeat(refine s_ ?_;simp)
  refine kpA [(3,.vptr 0 0),(4,.vptr 1 0),(5,.vptr 2 0),(7,.fn (.func 135) [] []),(58,LQp ps),(59,.i ps.length),(60,.i (0:Nat))] ?_;refine R9 ?_;refine R8 (P:=prog) (F:=λ(u:Nat×List AObj)=>⟨[(3,.vptr 0 0),(4,.vptr 1 0),(5,.vptr 2 0),(7,.fn (.func 135) [] []),(58,LQp ps),(59,.i ps.length),(60,.i u.1)],u.2⟩)
   (λu=>u.1<=ps.length/\(ps.take u.1).all (λs=>decide (inS a s.1/\inS b s.2))=true/\u.2[0]?=some (.vars (Qj a))/\u.2[1]?=some (.vars (Qj b))/\u.2[2]?=some (.vars [.i 1,LQp ps,LSy w])) (λu=>ps.length - u.1) ?_ (0,_) ⟨by simp,by simp,rfl,rfl,rfl⟩
  rintro⟨n,H⟩ ⟨hn,hI,g0,g1,g2⟩ ih;simp only at hn hI g0 g1 g2 ih |-;repeat(refine s_ ?_;simp)
  refine Qa rfl (λzg=>?_) (λzh=>?_)
  ·have z6:n<ps.length:=by simpa using zg
   have hw:=wz n (by omega);have za:(ps.map pqr)[n]?=some (pqr ps[n]):=by simp[z6]
   have zb:∀hh,(ps.map pqr)[n]'hh=pqr ps[n]:=λhh=>by simp
   have zc:=u0x z6 hI;have z8:=all_false (p:=λs:Int×Int=>decide (inS a s.1/\inS b s.2)) z6;generalize ps[n]=s at *
   obtain⟨p,q⟩:=s;simp only[pqr]at za zb;simp only[Gq]at zc z8;have k0:=Qb g0 [AObj.vars [.i p,.i q]];have k1:=Qb g1 [AObj.vars [.i p,.i q]];have k2:=Qb g2 [AObj.vars [.i p,.i q]];have kx:(H++[AObj.vars [.i p,.i q]])[H.length]?=some (.vars [.i p,.i q]):=by rw[zF (by simp)];simp
   have cA:=Di a p;have cB:=Di b q;simp only[encA]at cA cB;refine Uv ?_;simp;refine Rn ?_;refine Tn ?_;refine Rn (R6 tOk rfl ?_);simp[za,zb,z6];generalize H++[AObj.vars [AV.i p,AV.i q]]=H1 at *;clear g0 g1 g2;generalize H.length=X at *
   cases hA:decide (inS a p)
   ·rw[hA]at zc z8 cA;simp only[Gq]at hR;rw[if_pos (z8 rfl)]at hR;subst hR;repeat(refine s_ ?_;simp[k0,k1,kx])
    refine pcL (cA) ?_;simp[k0,k1,kx];refine Wq rfl rfl ?_;simp;repeat(refine s_ ?_;simp)
    refine Qa rfl (λ_=>?_) (λh=>by simp at h);repeat(refine s_ ?_;simp)
   rw[hA]at zc z8 cA;cases hB:decide (inS b q)
   ·rw[hB]at z8 cB;simp only[Gq]at hR;rw[if_pos (z8 rfl)]at hR;subst hR;repeat(refine s_ ?_;simp[k0,k1,kx])
    refine pcL (cA) ?_;simp[k0,k1,kx];refine pcL (cB) ?_;simp[k0,k1,kx];repeat(refine s_ ?_;simp)
    refine Qa rfl (λ_=>?_) (λh=>by simp at h);repeat(refine s_ ?_;simp)
   rw[hB]at zc cB;repeat(refine s_ ?_;simp[k0,k1,kx])
   refine pcL (cA) ?_;simp[k0,k1,kx];refine pcL (cB) ?_;simp[k0,k1,kx];repeat(refine s_ ?_;simp)
   refine Qa rfl (λh=>by simp at h) (λ_=>?_);repeat(refine s_ ?_;simp[hw])
   exact lkB (ih (n+1,H1) ⟨by simp only;omega,by simp only[Gq];exact zc,k0,k1,k2⟩ (by simp only;omega))
  have zd:n=ps.length:=by simp at zh;omega
  subst zd;rw[zY]at hI;rw[hI,if_neg (by simp)]at hR;clear ih;refine kpA [(3,.vptr 0 0),(4,.vptr 1 0),(5,.vptr 2 0)] ?_;repeat(refine s_ ?_;simp[g0])
  refine pcL (x0e a.types hT.1 hT.2) ?_;simp;have k2:=Qb g2 [AObj.vars [AV.list (uG encL (Wt a.types.toNat))]];have kp:(H++[AObj.vars [AV.list (uG encL (Wt a.types.toNat))]])[H.length]?=some (.vars [.list ((Wt a.types.toNat).map encL)]):=by rw[zF (by simp)];simp
  generalize H++[AObj.vars [AV.list (uG encL (Wt a.types.toNat))]]=H1 at *;clear g0 g1 g2;generalize H.length=X at *;clear H
  repeat(refine s_ ?_;simp[k2])
  refine kpA [(10,.vptr X 0),(86,LSy w),(87,.i w.length),(88,.i (0:Nat))] ?_;refine R9 ?_;refine R8 (P:=prog) (F:=λ(u:Nat×List AObj)=>⟨[(10,.vptr X 0),(86,LSy w),(87,.i w.length),(88,.i u.1)],u.2⟩)
   (λu=>u.1<=w.length/\w0t a.types (w.drop u.1)=R/\u.2[X]?=some (.vars [.list ((Wt a.types.toNat).map encL)])) (λu=>w.length - u.1) ?_ (0,_) ⟨by simp,by simpa using hR,kp⟩
  clear k2 kp hR;rintro⟨j,H⟩ ⟨hj,z7,kp⟩ ih;simp only at hj z7 kp ih |-;repeat(refine s_ ?_;simp)
  refine Qa rfl (λze=>?_) (λzf=>?_)
  ·have z1:j<w.length:=by simpa using ze
   have zi:=wz j (by omega);rw[Eh z1,w0t]at z7;have za:(w.map encSy)[j]?=some (encSy w[j]):=by simp[z1]
   have zb:∀hh,(w.map encSy)[j]'hh=encSy w[j]:=λhh=>by simp
   generalize w[j]=y at *
   have cC:=Yi (Wt a.types.toNat) y;rw[Ge a.types hT]at cC;simp only[encSy,encP]at za zb cC;have kq:=Qb kp [AObj.vars [.i y.ty,.i y.num]];have ky:(H++[AObj.vars [.i y.ty,.i y.num]])[H.length]?=some (.vars [.i y.ty,.i y.num]):=by rw[zF (by simp)];simp
   refine Uv ?_;simp;refine Rn ?_;refine Tn ?_;refine Rn (R6 tOk rfl ?_);simp[za,zb,z1];generalize H++[AObj.vars [.i y.ty,.i y.num]]=H1 at *;clear kp;generalize H.length=Y at *
   repeat(refine s_ ?_;simp[kq,ky])
   refine pcL (cC) ?_;simp;repeat(refine s_ ?_;simp)
   refine Qa rfl (λh=>?_) (λh=>?_)
   ·rw[if_pos (by simpa using h)]at z7;subst z7;repeat(refine s_ ?_;simp)
   rw[if_neg (by simpa using h)]at z7;repeat(refine s_ ?_;simp[zi])
   exact lkB (ih (j+1,H1) ⟨by simp only;omega,z7,kq⟩ (by simp only;omega))
  have zj:j=w.length:=by simp at zf;omega
  subst zj;rw[xX]at z7;subst z7;repeat(refine s_ ?_;simp)
  rfl
 have zp:¬0<ps.length:=λh=>hn (.inr ⟨rfl,h⟩);have zq:decide (0<ps.length)=false:=decide_eq_false zp;repeat(refine s_ ?_;simp)
 refine Qa rfl (λh=>by simp at h) (λ_=>?_);repeat(refine s_ ?_;simp[zq])
 refine Qa rfl (λh=>by first|(simp at h;done)|(simp at h;omega)) (λ_=>?_);repeat(refine s_ ?_;simp)
 unfold g1z at hR;simp only at hR;by_cases h1:2048<ps.length
 ·rw[if_pos (.inl h1)]at hR;subst hR;have d1:decide ((2048:Int)<ps.length)=true:=by simp;omega
  repeat(refine s_ ?_;simp[d1])
  refine Qa rfl (λ_=>?_) (λh=>by first|(simp at h;done)|(simp at h;omega));repeat(refine s_ ?_;simp)
 have d1:decide ((2048:Int)<ps.length)=false:=by simp;omega
 by_cases h2:4096<w.length
 ·rw[if_pos (.inr h2)]at hR;subst hR;repeat(refine s_ ?_;simp[d1])
  refine Qa rfl (λ_=>?_) (λh=>by first|(simp at h;done)|(simp at h;omega));repeat(refine s_ ?_;simp)
 rw[if_neg (by omega)]at hR;repeat(refine s_ ?_;simp[d1])
 refine Qa rfl (λh=>by first|(simp at h;done)|(simp at h;omega)) (λ_=>?_);repeat(refine s_ ?_;simp)
 refine kpA [(3,.vptr 0 0),(4,.vptr 1 0),(5,.vptr 2 0),(7,.fn (.func 135) [] []),(58,LQp ps),(59,.i ps.length),(60,.i (0:Nat))] ?_;refine R9 ?_;refine R8 (P:=prog) (F:=λ(u:Nat×List AObj)=>⟨[(3,.vptr 0 0),(4,.vptr 1 0),(5,.vptr 2 0),(7,.fn (.func 135) [] []),(58,LQp ps),(59,.i ps.length),(60,.i u.1)],u.2⟩)
  (λu=>u.1<=ps.length/\(ps.take u.1).all (λs=>decide (inS a s.1/\inS b s.2))=true/\u.2[0]?=some (.vars (Qj a))/\u.2[1]?=some (.vars (Qj b))/\u.2[2]?=some (.vars [.i 2,LQp ps,LSy w])) (λu=>ps.length - u.1) ?_ (0,_) ⟨by simp,by simp,rfl,rfl,rfl⟩
 rintro⟨n,H⟩ ⟨hn,hI,g0,g1,g2⟩ ih;simp only at hn hI g0 g1 g2 ih |-;repeat(refine s_ ?_;simp)
 refine Qa rfl (λzg=>?_) (λzh=>?_)
 ·have z6:n<ps.length:=by simpa using zg
  have hw:=wz n (by omega);have za:(ps.map pqr)[n]?=some (pqr ps[n]):=by simp[z6]
  have zb:∀hh,(ps.map pqr)[n]'hh=pqr ps[n]:=λhh=>by simp
  have zc:=u0x z6 hI;have z8:=all_false (p:=λs:Int×Int=>decide (inS a s.1/\inS b s.2)) z6;generalize ps[n]=s at *
  obtain⟨p,q⟩:=s;simp only[pqr]at za zb;simp only[Gq]at zc z8;have k0:=Qb g0 [AObj.vars [.i p,.i q]];have k1:=Qb g1 [AObj.vars [.i p,.i q]];have k2:=Qb g2 [AObj.vars [.i p,.i q]];have kx:(H++[AObj.vars [.i p,.i q]])[H.length]?=some (.vars [.i p,.i q]):=by rw[zF (by simp)];simp
  have cA:=Di a p;have cB:=Di b q;simp only[encA]at cA cB;refine Uv ?_;simp;refine Rn ?_;refine Tn ?_;refine Rn (R6 tOk rfl ?_);simp[za,zb,z6];generalize H++[AObj.vars [AV.i p,AV.i q]]=H1 at *;clear g0 g1 g2;generalize H.length=X at *
  cases hA:decide (inS a p)
  ·rw[hA]at zc z8 cA;simp only[Gq]at hR;rw[if_pos (z8 rfl)]at hR;subst hR;repeat(refine s_ ?_;simp[k0,k1,kx])
   refine pcL (cA) ?_;simp[k0,k1,kx];refine Wq rfl rfl ?_;simp;repeat(refine s_ ?_;simp)
   refine Qa rfl (λ_=>?_) (λh=>by simp at h);repeat(refine s_ ?_;simp)
  rw[hA]at zc z8 cA;cases hB:decide (inS b q)
  ·rw[hB]at z8 cB;simp only[Gq]at hR;rw[if_pos (z8 rfl)]at hR;subst hR;repeat(refine s_ ?_;simp[k0,k1,kx])
   refine pcL (cA) ?_;simp[k0,k1,kx];refine pcL (cB) ?_;simp[k0,k1,kx];repeat(refine s_ ?_;simp)
   refine Qa rfl (λ_=>?_) (λh=>by simp at h);repeat(refine s_ ?_;simp)
  rw[hB]at zc cB;repeat(refine s_ ?_;simp[k0,k1,kx])
  refine pcL (cA) ?_;simp[k0,k1,kx];refine pcL (cB) ?_;simp[k0,k1,kx];repeat(refine s_ ?_;simp)
  refine Qa rfl (λh=>by simp at h) (λ_=>?_);repeat(refine s_ ?_;simp[hw])
  exact lkB (ih (n+1,H1) ⟨by simp only;omega,by simp only[Gq];exact zc,k0,k1,k2⟩ (by simp only;omega))
 have zd:n=ps.length:=by simp at zh;omega
 subst zd;rw[zY]at hI;rw[hI,if_neg (by simp)]at hR;clear ih;refine kpA [(3,.vptr 0 0),(4,.vptr 1 0),(5,.vptr 2 0)] ?_;repeat(refine s_ ?_;simp[g0])
 refine pcL (x0e a.types hT.1 hT.2) ?_;simp;have k2:=Qb g2 [AObj.vars [AV.list (uG encL (Wt a.types.toNat))]];have kp:(H++[AObj.vars [AV.list (uG encL (Wt a.types.toNat))]])[H.length]?=some (.vars [.list ((Wt a.types.toNat).map encL)]):=by rw[zF (by simp)];simp
 generalize H++[AObj.vars [AV.list (uG encL (Wt a.types.toNat))]]=H1 at *;clear g0 g1 g2;generalize H.length=X at *;clear H
 repeat(refine s_ ?_;simp[k2])
 refine kpA [(10,.vptr X 0),(86,LSy w),(87,.i w.length),(88,.i (0:Nat))] ?_;refine R9 ?_;refine R8 (P:=prog) (F:=λ(u:Nat×List AObj)=>⟨[(10,.vptr X 0),(86,LSy w),(87,.i w.length),(88,.i u.1)],u.2⟩)
  (λu=>u.1<=w.length/\w0t a.types (w.drop u.1)=R/\u.2[X]?=some (.vars [.list ((Wt a.types.toNat).map encL)])) (λu=>w.length - u.1) ?_ (0,_) ⟨by simp,by simpa using hR,kp⟩
 clear k2 kp hR;rintro⟨j,H⟩ ⟨hj,z7,kp⟩ ih;simp only at hj z7 kp ih |-;repeat(refine s_ ?_;simp)
 refine Qa rfl (λze=>?_) (λzf=>?_)
 ·have z1:j<w.length:=by simpa using ze
  have zi:=wz j (by omega);rw[Eh z1,w0t]at z7;have za:(w.map encSy)[j]?=some (encSy w[j]):=by simp[z1]
  have zb:∀hh,(w.map encSy)[j]'hh=encSy w[j]:=λhh=>by simp
  generalize w[j]=y at *
  have cC:=Yi (Wt a.types.toNat) y;rw[Ge a.types hT]at cC;simp only[encSy,encP]at za zb cC;have kq:=Qb kp [AObj.vars [.i y.ty,.i y.num]];have ky:(H++[AObj.vars [.i y.ty,.i y.num]])[H.length]?=some (.vars [.i y.ty,.i y.num]):=by rw[zF (by simp)];simp
  refine Uv ?_;simp;refine Rn ?_;refine Tn ?_;refine Rn (R6 tOk rfl ?_);simp[za,zb,z1];generalize H++[AObj.vars [.i y.ty,.i y.num]]=H1 at *;clear kp;generalize H.length=Y at *
  repeat(refine s_ ?_;simp[kq,ky])
  refine pcL (cC) ?_;simp;repeat(refine s_ ?_;simp)
  refine Qa rfl (λh=>?_) (λh=>?_)
  ·rw[if_pos (by simpa using h)]at z7;subst z7;repeat(refine s_ ?_;simp)
  rw[if_neg (by simpa using h)]at z7;repeat(refine s_ ?_;simp[zi])
  exact lkB (ih (j+1,H1) ⟨by simp only;omega,z7,kq⟩ (by simp only;omega))
 have zj:j=w.length:=by simp at zf;omega
 subst zj;rw[xX]at z7;subst z7;repeat(refine s_ ?_;simp)
 rfl
end
section
open Go Go.Proofs Go.Maps Go.RowKit
def knQ(l:List (Int×Int))(k:Nat):List (Int×Int):=(l.take k).foldl adQ []
def c1h(l:List (Int×Int)):knQ l 0=[]:=by unfold knQ;rfl
def g1c{l:List (Int×Int)}{k:Nat}(h:k<l.length):knQ l (k+1)=adQ (knQ l k) l[k]:=by unfold knQ;rw[zR h,wJ];rfl
def c0z{l:List (Int×Int)}{k:Nat}{s:Int×Int}:s∈knQ l k↔s∈l.take k:=by unfold knQ;have:=q01 (l.take k) [] (s:=s);rw[this];simp
def Nh(es:List (Sy×(Int×Int)))(l:List (Int×Int)):Bool:=es.all λe=>decide (e.2∈l)
def v1x{es:List (Sy×(Int×Int))}{l:List (Int×Int)}{e:Sy×(Int×Int)}(h1:Nh es l=true)(h2:e.2∈l):Nh (es++[e]) l=true:=by
 unfold Nh at *;rw[List.all_append,h1]
 simp[h2]
def f0c{es:List (Sy×(Int×Int))}{l:List (Int×Int)}{e:Sy×(Int×Int)}(he:e∈es)(h:e.2∉l):Nh es l=false:=by unfold Nh;rw[uP];exact⟨e,he,by simpa using h⟩
def c05(a b:Aut){K l:List (Int×Int)}(h:∀s,s∈K↔s∈l):He a b K=He a b l:=by unfold He;rw[x_,z_,z_,zX,zX];simp only[h]
def x19{a b:Aut}{l:List (Int×Int)}{s:Int×Int}(hs:s∈l)(h:w0v a b s=false\/Nh (Iy a b s) l=false):He a b l=false:=by
 unfold Nh at h;unfold He;have:(l.all λs=>w0v a b s && (Iy a b s).all λe=>decide (e.2∈l))=false:=by
  rw[uP];refine⟨s,hs,?_⟩;rcases h with h|h
  ·rw[h];simp
  rw[h];simp
 rw[this];rfl
def g0b{a b:Aut}{l:List (Int×Int)}(h:∀s∈l,w0v a b s=true/\Nh (Iy a b s) l=true):He a b l=decide ((0,0)∈l):=by
 unfold Nh at h;unfold He;have:(l.all λs=>w0v a b s && (Iy a b s).all λe=>decide (e.2∈l))=true:=by rw[zX];intro s hs;rw[(h s hs).1,(h s hs).2];rfl
 rw[this];rfl
structure PvH (a b:Aut) (M:AObj) (H:List AObj):Prop where
 h0:H[0]?=some (.vars (Qj a))
 h1:H[1]?=some (.vars (Qj b))
 h2:H[2]?=some (.vars [.bool false])
 h3:H[3]?=some M
 h4:H[4]?=some (.vars [.mref 3])
def PvH.app{a b:Aut}{M:AObj}{H:List AObj}(h:PvH a b M H)(E:List AObj):PvH a b M (H++E):=
 ⟨Qb h.h0 _,Qb h.h1 _,Qb h.h2 _,Qb h.h3 _,Qb h.h4 _⟩
def PvH.setx{a b:Aut}{M:AObj}{H:List AObj}(h:PvH a b M H){j:Nat}(hj:4<j)(x:AObj):PvH a b M (H.set j x):=
 ⟨Qc (by omega) h.h0 _,Qc (by omega) h.h1 _,Qc (by omega) h.h2 _,Qc (by omega) h.h3 _,Qc (by omega) h.h4 _⟩
def PvH.set3{a b:Aut}{M:AObj}{H:List AObj}(h:PvH a b M H)(x:AObj):PvH a b x (H.set 3 x):=
 ⟨Qc (by omega) h.h0 _,Qc (by omega) h.h1 _,Qc (by omega) h.h2 _,Qf h.h3 _,Qc (by omega) h.h4 _⟩
def PvR(a b:Aut)(K:List (Int×Int))(s:Int×Int)(I X:Nat)(IT:AObj)(H':List AObj):Prop:=
 ∃pend sl' ps' a' b',H'[X]?=some (.lp (Option.isNone pend) pend 54 sl' ps' a' b')/\X<=H'.length/\
    ((pend=none/\PvH a b (.fm (kvQ K)) H'/\H'[I]?=some IT/\Nh (Iy a b s) K=true)\/(pend=some .ret/\Nh (Iy a b s) K=false/\H'[2]?=some (.vars [.bool false])))
def w2k{a b:Aut}(ha:OkA a)(hb:OkA b){s:Int×Int}(h:inS a s.1/\inS b s.2):okQ s:=v0k ha hb ⟨.inr h.1,.inr h.2⟩
attribute [local irreducible] He w0v Iy knQ Nh PvR
def f0e(a b:Aut)(ha:OkA a)(hb:OkA b)(ht:b.types=a.types)(zw:Dta a)(zy:Dta b)(ps:List (Int×Int))(hl:ps.length<=2048)(zk:∀s∈ps,inS a s.1/\inS b s.2):PC prog 72 [encA a,encA b,LQp ps] (λr=>r= .bool (He a b ps)):=by
 refine pcB func72 results72 ntmps72 ?_;simp only[Qd];simp only[encA];obtain⟨R,hR⟩:∃R,He a b ps=R:=⟨_,rfl⟩
 rw[hR];repeat(refine s_ ?_;simp)
 refine Ea rfl rfl rfl ?_;simp;repeat(refine s_ ?_;simp)
 refine kpA [(3,.vptr 0 0),(4,.vptr 1 0),(6,.vptr 2 0),(7,.vptr 4 0),(13,LQp ps),(14,.i ps.length),(15,.i (0:Nat))] ?_;refine R9 ?_;refine R8 (P:=prog) (F:=λ(u:Nat×List AObj)=>⟨[(3,.vptr 0 0),(4,.vptr 1 0),(6,.vptr 2 0),(7,.vptr 4 0),(13,LQp ps),(14,.i ps.length),(15,.i u.1)],u.2⟩)
  (λu=>u.1<=ps.length/\PvH a b (stQ (knQ ps u.1)) u.2) (λu=>ps.length - u.1) ?_ (0,_) ⟨by simp,rfl,rfl,rfl,by rw[c1h];rfl,rfl⟩
 rintro⟨n,H⟩ ⟨hn,g⟩ ih;simp only at hn g ih |-;repeat(refine s_ ?_;simp)
 have zc:∀k,∀s∈knQ ps k,okQ s:=λk s hs=>w2k ha hb (zk s (List.mem_of_mem_take (c0z.1 hs)));refine Qa rfl (λyb=>?_) (λyc=>?_)
 ·have za:n<ps.length:=by simpa using yb
  have hw:=wz n (by omega);have zz:(ps.map pqr)[n]?=some (pqr ps[n]):=by simp[za]
  have y0:∀hh,(ps.map pqr)[n]'hh=pqr ps[n]:=λhh=>by simp
  have yd:=g1c za;have ye:okQ ps[n]:=w2k ha hb (zk _ (zL za));generalize ps[n]=s at *
  obtain⟨p,q⟩:=s;simp only[pqr]at zz y0;have k:=g.app [AObj.vars [.i p,.i q]];have kx:(H++[AObj.vars [.i p,.i q]])[H.length]?=some (.vars [.i p,.i q]):=by rw[zF (by simp)];simp
  refine Uv ?_;simp;refine Rn ?_;refine Tn ?_;refine Rn (R6 tOk rfl ?_);simp[zz,y0,za];generalize H++[AObj.vars [.i p,.i q]]=H1 at *;clear g;generalize H.length=X at *
  have k4:=k.h4;repeat(refine s_ ?_;simp[k4,kx])
  refine w09 rfl rfl rfl rfl (s:=(p,q)) rfl rfl k.h3 (zc _) ye ?_;rw[<-yd];simp;repeat(refine s_ ?_;simp[hw])
  exact lkB (ih (n+1,_) ⟨by simp only;omega,k.set3 _⟩ (by simp only;omega))
 have zo:n=ps.length:=by simp at yc;omega
 subst zo;have y1:=zc ps.length;have zp:∀s,s∈knQ ps ps.length↔s∈ps:=λs=>by rw[c0z,zY]
 have yf:∀s∈knQ ps ps.length,inS a s.1/\inS b s.2:=λs hs=>zk s ((zp s).1 hs);rw[<-c05 a b zp]at hR;generalize knQ ps ps.length=K at *;clear ih zc zp zk;refine kpA [(3,.vptr 0 0),(4,.vptr 1 0),(6,.vptr 2 0),(7,.vptr 4 0)] ?_
 have g4:=g.h4;repeat(refine s_ ?_;simp[g4])
 refine Md tOk rfl rfl rfl y2u rfl rfl g.h3 ?_;simp;repeat(refine s_ ?_;simp)
 refine Q3 λE hE=>?_;have e:PvH a b (.fm (kvQ K)) E:=by rw[hE];exact(g.set3 _).app _
 have ei:E[H.length]?=some (.it (kvQ K) none):=by rw[hE,zF (by simp)];simp
 have yg:=Qe g4;clear hE g g4;generalize H.length=I at *;clear H;refine lpV (F:=λ(u:List (Int×Int)×Option (AV×AV)×List AObj)=>⟨[(3,.vptr 0 0),(4,.vptr 1 0),(6,.vptr 2 0),(7,.vptr 4 0),(23,.vptr I 0)],u.2.2⟩)
  (λu=>PvH a b (.fm (kvQ K)) u.2.2/\u.2.2[I]?=some (.it (kvQ u.1) u.2.1)/\(∀s∈u.1,s∈K)/\∀s∈K,s∉u.1->w0v a b s=true/\Nh (Iy a b s) K=true) (λu=>u.1.length) ?_ (K,none,E) ⟨e,ei,λs h=>h,λs h h2=>absurd h h2⟩
 clear e ei;clear E;rintro⟨left,cur,E⟩ ⟨e,ei,zb,z6⟩ ih;simp only at e ei zb z6 ih |-;repeat(refine s_ ?_;simp)
 refine Aj rfl rfl rfl rfl ei (λy2=>?_) (λi p hp=>?_)
 ·simp;have yh:left=[]:=by unfold kvQ at y2;simpa using y2
  subst yh;repeat(refine s_ ?_;simp)
  refine Qk rfl ?_;simp;have e4:=e.h4;rw[g0b λs hs=>z6 s hs (by simp)]at hR;repeat(refine s_ ?_;simp[e4])
  refine G8 rfl rfl rfl rfl (s:=(0,0)) rfl e.h3 y1 (by unfold okQ;decide) ?_;rw[hR];have e2:=e.h2;have zq:=Qf e2 (.vars [.bool R]);simp[e2];repeat(refine s_ ?_;simp[zq])
 simp;unfold kvQ at hp;rw[zU]at hp;obtain⟨s,hs,rfl⟩:=zQ.1 hp;have yi:(kvQ left).eraseIdx i=kvQ (left.eraseIdx i):=Df ..;rw[yi];have y3:s∈K:=zb s (zJ hs);have ze:∀z∈left.eraseIdx i,z∈K:=λz hz=>zb z (List.mem_of_mem_eraseIdx hz);have ym:(left.eraseIdx i).length<left.length:=by rw[List.length_eraseIdx,if_pos (Y6 hs)];have:=Y6 hs;omega
 have z1:(w0v a b s=true/\Nh (Iy a b s) K=true)->∀z∈K,z∉left.eraseIdx i->w0v a b z=true/\Nh (Iy a b z) K=true:=λh z hz hn=>by
  by_cases hzl:z∈left
  ·rw[mem_erase hs hzl hn];exact h
  exact z6 z hz hzl
 clear z6 zb;have zl:=yf s y3;have z7:=λh=>x19 (a:=a) (b:=b) y3 h;generalize left.eraseIdx i=left' at *
 have ki:=Qf ei (.it (kvQ left') (some (pqr s,.bool true)));have k:=e.setx yg (.it (kvQ left') (some (pqr s,.bool true)));generalize E.set I (.it (kvQ left') (some (pqr s,.bool true)))=E1 at *;clear e ei;clear E
 obtain⟨s1,s2⟩:=s;unfold inS at zl;simp only at zl;obtain⟨sn,rfl⟩:∃k:Nat,s1=k:=⟨s1.toNat,by omega⟩
 obtain⟨tn,rfl⟩:∃k:Nat,s2=k:=⟨s2.toNat,by omega⟩
 have zm:sn<a.fin.length:=by have:=zl.1.2;omega
 have zn:tn<b.fin.length:=by have:=zl.2.2;omega
 have hq:w0v a b ((sn:Int),(tn:Int))=(a.fin[sn]==b.fin[tn]):=by unfold w0v;simp[zm,zn]
 have y4:(a.fin.map AV.bool)[sn]?=some (.bool a.fin[sn]):=by simp[zm]
 have zf:∀hh,(a.fin.map AV.bool)[sn]'hh= .bool a.fin[sn]:=λhh=>by simp
 have y5:(b.fin.map AV.bool)[tn]?=some (.bool b.fin[tn]):=by simp[zn]
 have zg:∀hh,(b.fin.map AV.bool)[tn]'hh= .bool b.fin[tn]:=λhh=>by simp
 generalize a.fin[sn]=fa at *;generalize b.fin[tn]=fb at *;simp only[pqr]at ki |-
 repeat(refine s_ ?_;simp)
 refine Qk rfl ?_;simp;refine Uv ?_;simp;refine Tn ?_;refine Rn (R6 tOk rfl ?_);simp;refine Oc rfl rfl rfl rfl ki ?_;simp;have yn:=Qe ki;have kx:(E1++[AObj.vars [.i sn,.i tn]])[E1.length]?=some (.vars [.i sn,.i tn]):=by rw[zF (by simp)];simp
 have kk:=k.app [AObj.vars [.i sn,.i tn]];have y6:=Qb ki [AObj.vars [.i sn,.i tn]];generalize zr:E1++[AObj.vars [.i sn,.i tn]]=E2 at *
 have yj:E2.length=E1.length+1:=by rw[<-zr];simp
 clear zr;clear k ki;generalize E1.length=X at *
 have k0:=kk.h0;have k1:=kk.h1;repeat(refine s_ ?_;simp)
 refine drT [] (.pv 0 13 (.done)) ?_;simp[k0,k1,kx,y4,zf,y5,zg,zm,zn];refine Qa rfl (λh=>?_) (λh=>?_)
 ·have hf:(fa==fb)=false:=by simpa using h
  rw[hq,hf]at z7;rw[z7 (.inl rfl)]at hR;subst hR;have k2:=kk.h2;have zq:=Qf k2 (.vars [.bool false]);repeat(refine s_ ?_;simp[k2,zq])
 have hf:(fa==fb)=true:=by simpa using h
 rw[hq,hf]at z1 z7;have cLe:=Mk a b ((sn:Int),(tn:Int));simp only[encA,pqr]at cLe;have zt:∀e∈Iy a b ((sn:Int),(tn:Int)),okQ e.2:=λe he=>v0k ha hb (u1r zw zy ht he);repeat(refine s_ ?_;simp[k0,k1,kx])
 refine pcL (cLe) ?_;simp;refine kpA [(3,.vptr 0 0),(4,.vptr 1 0),(6,.vptr 2 0),(7,.vptr 4 0),(23,.vptr I 0),(44,.fn (.func 190) [] [.iptr (Qj a),.iptr [.i sn,.i tn],.iptr (Qj b)])] ?_;have k2:=kk.h2;have zr:=Qe kk.h4;have yo:=Qe y6;repeat(refine s_ ?_;simp)
 clear k0 k1 kx y4 zf y5 zg zm zn cLe;have y7:([.i (sn:Int),.i (tn:Int)]:List AV)=[.i ((sn:Int),(tn:Int)).1,.i ((sn:Int),(tn:Int)).2]:=rfl;rw[y7];clear y7;generalize ((sn:Int),(tn:Int))=s at *;generalize hit:AObj.it (kvQ left') (some (AV.agg [AV.i ↑sn,AV.i ↑tn],AV.bool true))=IT at *;refine Eb rfl (Rf:=λ_ H'=>PvR a b K s I E2.length IT H') ?_ ?_
 ·simp;refine A9 λH1 zh=>?_;have fS:PvH a b (.fm (kvQ K)) H1:=by rw[zh];exact kk.app _
  have fi:H1[I]?=some IT:=by rw[zh];exact Qb y6 _
  have fl:H1.length=E2.length+1:=by rw[zh];simp
  have fq:=congrArg (λh:List AObj=>h[E2.length]?) zh;simp at fq;clear zh;refine FC.mono (Z9 a b ha hb ht zw zy s E2.length (by rfl) (by rfl)
   (λpre J=>PvH a b (.fm (kvQ K)) J/\J[I]?=some IT/\Nh pre K=true/\J[E2.length]? =H1[E2.length]?)
   (λc J=>c= .ret/\Nh (Iy a b s) K=false/\J[2]?=some (.vars [.bool false])/\∃sl' ps' a' b',J[E2.length]?=some (.lp false (some .ret) 54 sl' ps' a' b')) H1 (λpre J h=>h.2.2.2.trans fq)
   (λpre J E h=>⟨h.1.app E,Qb h.2.1 _,h.2.2.1,by rw[<-h.2.2.2,zH (Qe (h.2.2.2.trans fq))]⟩) ?_ ⟨fS,fi,by unfold Nh;rfl,rfl⟩) ?_
  ·rintro pre e post J heq ⟨g,gi,zu,yk⟩ hlen1;simp[Rh];have h8:=yk.trans fq;have hd:=g.setx (j:=E2.length) (by omega) .dead;have di:=Qc (j:=E2.length) (by omega) gi .dead;have d8:=Qf h8 .dead;have dl:(J.set E2.length .dead).length=J.length:=by simp
   have yl:∀j,j≠E2.length->(J.set E2.length .dead)[j]? =J[j]? :=λj hj=>by rw[zE (Ne.symm hj)]
   generalize J.set E2.length .dead=Z at *
   have zj:=zt e (by rw[heq];simp);obtain⟨⟨ty,num⟩,t⟩:=e;simp only[E8];simp only at zj;have z:=hd.app [.vars [.i ty,.i num,.i t.1,.i t.2]];have zx:(Z++[AObj.vars [.i ty,.i num,.i t.1,.i t.2]])[Z.length]?=some (.vars [.i ty,.i num,.i t.1,.i t.2]):=by rw[zF (by simp)];simp
   have z4:=z.h4;have z2:=z.h2;refine R6 tOk rfl ?_;simp;generalize y8:Z++[AObj.vars [.i ty,.i num,.i t.1,.i t.2]]=Z2 at *
   have zv:∀j x,Z[j]?=some x->Z2[j]?=some x:=λj x h=>by rw[<-y8];exact Qb h _
   have z8:=zv _ _ d8;have zi:=zv _ _ di;clear y8;generalize Z.length=Y at *
   repeat(refine s_ ?_;simp[z4,zx])
   refine G8 rfl rfl rfl rfl (s:=t) rfl z.h3 y1 zj ?_;simp;repeat(refine s_ ?_;simp)
   by_cases hm:t∈K
   ·refine Qa rfl (λh=>by rw[decide_eq_true hm]at h;cases h) (λ_=>?_);repeat(refine s_ ?_;simp)
    refine⟨z8,.inl ⟨rfl,⟨z.setx (by omega) _,Qc (by omega) zi _,v1x zu hm,by rw[fq];exact Qf z8 _⟩,λj cs hj hc=>?_⟩⟩
    ·have y9:j≠E2.length:=by omega
     exact Qc (Ne.symm y9) (zv j _ ((yl j y9).trans hc)) _
   refine Qa rfl (λ_=>?_) (λh=>by rw[decide_eq_false hm]at h;cases h);have z22:=Qf z2 (.vars [.bool false]);repeat(refine s_ ?_;simp[z2,z22])
   have zd:=f0c (l:=K) (e:=(⟨ty,num⟩,t)) (es:=Iy a b s) (by rw[heq];simp) hm;refine⟨Qc (by omega) z8 _,.inr ⟨_,rfl,rfl,zd,Qc (by omega) z22 _,_,_,_,_,Qf (Qc (by omega) z8 _) _⟩⟩
  rintro _ H' (⟨h1,h2,h3,h4⟩|⟨c,rfl,h2,h3,sl',ps',a',b',h4⟩)
  ·unfold PvR;exact⟨none,_,_,_,_,h4.trans fq,tr (Qe (h4.trans fq)),.inl ⟨rfl,h1,h2,h3⟩⟩
  unfold PvR;exact⟨some .ret,sl',ps',a',b',h4,tr (Qe h4),.inr ⟨rfl,h2,h3⟩⟩
 intro res H' ya;unfold PvR at ya;obtain⟨pend,sl',ps',a',b',h3,h4,h5⟩:=ya;refine⟨pend.isNone,pend,54,sl',ps',a',b',by simpa using h3,?_⟩;rcases h5 with⟨rfl,h5,h6,h7⟩|⟨rfl,h5,h6⟩
 ·rw[h7]at z1;have k:=h5.setx (j:=E2.length) (by omega) .dead;have ki:=Qc (j:=E2.length) (by omega) h6 .dead;simp;repeat(refine s_ ?_;simp)
  refine lkA [(3,.vptr 0 0),(4,.vptr 1 0),(6,.vptr 2 0),(7,.vptr 4 0),(23,.vptr I 0)] ?_;rw[<-hit]at ki;exact ih (left',some (AV.agg [AV.i ↑sn,AV.i ↑tn],AV.bool true),H'.set E2.length .dead) ⟨k,ki,ze,z1 ⟨rfl,rfl⟩⟩ (by simp only;omega)
 rw[h5]at z7;rw[z7 (.inr rfl)]at hR;subst hR;have k2:=Qc (j:=E2.length) (by omega) h6 .dead;simp;repeat(refine s_ ?_;simp[k2])
attribute [local irreducible] Yr Sc g1z L9 Eo
def Fo(a b:Aut)(x:EqC):PC prog 23 [encA a,encA b,g02 x] (λr=>r= .i (u0c a b x)):=by
 refine pcB func23 results23 ntmps23 ?_;simp only[Qd];obtain⟨v,ps,w⟩:=x;have cF:=Xw a b;have z7:Yr a b=0->Dfa a/\Dfa b/\b.types=a.types:=λh=>Px.1 h;obtain⟨R,hR⟩:∃R,u0c a b ⟨v,ps,w⟩=R:=⟨_,rfl⟩
 rw[hR];unfold u0c at hR;simp only[encA,g02]at cF hR |-;repeat(refine s_ ?_;simp)
 refine pcL (cF) ?_;simp;repeat(refine s_ ?_;simp)
 refine Qa rfl (λh=>?_) (λh=>?_)
 ·have h':Yr a b≠0:=by simpa using h
  rw[if_pos h']at hR;subst hR;repeat(refine s_ ?_;simp)
 have h':Yr a b=0:=by simpa using h
 rw[if_neg (λk=>k h')]at hR;obtain⟨ha,hb,ht⟩:=z7 h';have cP:=d0i a b ⟨v,ps,w⟩ ha.ok.types;have cA:=Xz a w;have cB:=Xz b w;have cC:=λh1 h2=>f0e a b ha.ok hb.ok ht ⟨ha.ok,ha.det⟩ ⟨hb.ok,hb.det⟩ ps h1 h2;rw[c06 ⟨ha.ok,ha.det⟩ ⟨hb.ok,hb.det⟩ ht]at cC;simp only[encA,g02]at cP cA cB cC;repeat(refine s_ ?_;simp)
 refine pcL (cP) ?_;simp;repeat(refine s_ ?_;simp)
 refine Qa rfl (λh4=>?_) (λh4=>?_)
 ·have z1:Sc a b ⟨v,ps,w⟩≠0:=by simpa using h4
  rw[if_pos z1]at hR;subst hR;repeat(refine s_ ?_;simp)
 have z1:Sc a b ⟨v,ps,w⟩=0:=by simpa using h4
 rw[if_neg (λk=>k z1)]at hR;rw[x02]at z1;have z8:v=1\/v=2:=by
  by_cases k:v≠1/\v≠2
  ·rw[if_pos k]at z1;cases z1
  omega
 rw[if_neg (by omega)]at z1;have za:g1z a b ⟨v,ps,w⟩=0:=by
  split at z1
  ·cases z1
  exact z1
 obtain⟨e1,e2,e3,e4⟩:=c1k za;simp only at e1 e2 e3 e4;have z6:∀(m:Aut),Dfa m->m.types=a.types->d07 m w=(Eo m w,0):=λm hm zb=>by
  have hE:u1y m w=0:=by unfold u1y;rw[(I8 m).2 hm.ok,if_neg (by simp),if_neg (by omega),zb,e4]
  unfold d07;rw[hE];rfl
 rw[z6 a ha rfl]at cA;rw[z6 b hb ht]at cB;rcases z8 with rfl|rfl
 ·repeat(refine s_ ?_;simp)
  refine Qa rfl (λ_=>?_) (λh=>by simp at h);repeat(refine s_ ?_;simp)
  refine pcL (cC e1 e3) ?_;simp;repeat(refine s_ ?_;simp)
  rw[if_pos rfl]at hR;refine Qa rfl (λh=>?_) (λh=>?_)
  ·rw[if_neg (by simpa using h)]at hR;subst hR;repeat(refine s_ ?_;simp)
  rw[if_pos (by simpa using h)]at hR;subst hR;repeat(refine s_ ?_;simp)
 repeat(refine s_ ?_;simp)
 refine Qa rfl (λh=>by simp at h) (λ_=>?_);repeat(refine s_ ?_;simp)
 refine pcL (cA) ?_;simp;repeat(refine s_ ?_;simp)
 refine pcL (cB) ?_;simp;repeat(refine s_ ?_;simp)
 refine Qa rfl (λh=>?_) (λh=>?_)
 ·have h':Eo a w=Eo b w:=by simpa using h
  simp[h']at hR;subst hR;repeat(refine s_ ?_;simp)
 have h':¬Eo a w=Eo b w:=by simpa using h
 simp[h']at hR;subst hR;repeat(refine s_ ?_;simp)
end
section
open Go Go.Proofs Go.Maps Go.RowKit
attribute [local irreducible] exQ exR v0y Z6 Nk u0c
def R3:PC prog 28 [] (λr=>r= .bool true):=by
 refine pcB func28 results28 ntmps28 ?_;simp only[Qd];have z6:yQ 1=[0]:=rfl;have z1:yQ 2=[0,1]:=rfl;repeat(refine s_ ?_;simp)
 refine pcL (z0x) ?_;simp;repeat(refine s_ ?_;simp)
 refine pcL (Xr exQ exR) ?_;simp[w2t,y2n,g02];repeat(refine s_ ?_;simp)
 refine pcL (Xr exQ exQ) ?_;simp[z1j,y2n,g02];repeat(refine s_ ?_;simp[z6])
 refine Qp 4 rfl ?_;simp;refine pcL (O0 exQ exR) ?_;simp[j2e,y14];repeat(refine s_ ?_;simp)
 refine pcL (O1 exQ exR) ?_;simp[x2z,y14];have z7:IntKind.i64.wrap 0=0:=by decide
 have e1:g02 ⟨2,[],[⟨0,5⟩]⟩= .agg [.i 2,.list [],.list [.agg [.i 0,.i 5]]]:=rfl;have e2:g02 ⟨1,[(0,0),(1,1)],[]⟩= .agg [.i 1,.list [.agg [.i 0,.i 0],.agg [.i 1,.i 1]],.list []]:=rfl;refine kpA [(0,.bool false),(1,.vptr 0 0),(2,.vptr 1 0),(3,.vptr 2 0),(4,.i 0),(5,.vptr 3 0),(6,.i 0),(7,.list [.agg [.i 0,.i 5]]),(8,.list [.agg [.i 0,.i 5]]),(9,.bool true),(10,.i 0),(11,.list [.agg [.i 0,.i (-1099511627776)],.agg [.i 0,.i 5]]),(12,.bool false),(13,.i 0)] ?_;repeat(refine s_ ?_;simp[z7])
 refine pcL (x0g ⟨2,[],[⟨0,5⟩]⟩) ?_;simp[e1,z1];refine Qp 5 rfl ?_;simp;refine pcL (x0g ⟨1,[(0,0),(1,1)],[]⟩) ?_;simp[e2,z1];refine pcL (Ce [⟨0,5⟩] [⟨0,5⟩]) ?_;simp[z1];refine Qp 6 rfl ?_;simp;refine pcL (Ce [⟨0,-1099511627776⟩,⟨0,5⟩] [⟨0,-1099511627776⟩,⟨0,5⟩]) ?_;simp;refine pcL (Fo exQ exR ⟨2,[],[⟨0,5⟩]⟩) ?_;simp[u2o];refine pcL (Fo exQ exQ ⟨1,[(0,0),(1,1)],[]⟩) ?_;simp[y2x];refine Qp 7 rfl ?_;simp;refine pcL (Fo exQ exQ ⟨1,[(0,0)],[]⟩) ?_;simp[x2r];repeat(refine s_ ?_;simp)
end
section
open Go Go.Proofs Go.Maps Go.RowKit
attribute [local irreducible] v0t v0y Nk Z6 u0c Em
def u1s(a b:Aut):PC prog 35 [encA a,encA b] (λr=>r= .bool (v0t a && v0t b && decide (Em a b=0))):=by
 refine pcB func35 results35 ntmps35 ?_;simp only[Qd];have c1:=z1h a;have c2:=z1h b;have c3:=q2l a b;simp only[encA]at c1 c2 c3 |-;repeat(refine s_ ?_;simp)
 cases h1:v0t a
 ·rw[h1]at c1;refine pcL (c1) ?_;simp;refine Wq rfl rfl ?_;simp;refine Wq rfl rfl ?_;simp;repeat(refine s_ ?_;simp)
 rw[h1]at c1;refine pcL (c1) ?_;simp;cases h2:v0t b
 ·rw[h2]at c2;refine pcL (c2) ?_;simp;refine Wq rfl rfl ?_;simp;repeat(refine s_ ?_;simp)
 rw[h2]at c2;refine pcL (c2) ?_;simp;refine pcL (c3) ?_;simp;repeat(refine s_ ?_;simp)
 rw[x_];simp
end
section
open Go Go.Proofs Go.Maps Go.RowKit
attribute [local irreducible] v0t u0c
end
section
open Go Go.Proofs Go.Maps Go.RowKit
attribute [local irreducible] v0t Nk Z6 Em R5 d07
end
def Bn(a:Aut)(w:List Sy):Eo a w=true↔Ft a 0 w:=by unfold Eo;rw[Kw];simp
structure Sim (p a b:Aut) (prs:List (Int×Int)):Prop where
 first:prs[0]?=some (0,0)
 fin:∀(k:Nat) (s:Int×Int),prs[k]?=some s->p.fin.getD k false=true->a.fin.getD s.1.toNat false=true/\b.fin.getD s.2.toNat false=true
 mv:∀m∈p.mv,∃(s t:Int×Int) (ma mb:Mv),prs[m.src.toNat]?=some s/\prs[m.dst.toNat]?=some t/\ma∈a.mv/\mb∈b.mv/\ma.src=s.1/\mb.src=s.2/\ma.dst=t.1/\mb.dst=t.2/\∀x,Q9 a x->Ry m.on x=true->Ry ma.on x=true/\Ry mb.on x=true
def Sim.go{p a b:Aut}{prs:List (Int×Int)}(h:Sim p a b prs)(ha:OkA a)(hb:OkA b)(hp:OkA p):∀(w:List Sy) (k:Nat) (s:Int×Int),prs[k]?=some s->(∀x∈w,Q9 a x)->Ft p k w->Ft a s.1 w/\Ft b s.2 w
 |[],k,s,hk,_,hf=>h.fin k s hk (by simpa[Ft]using hf)
 |x::w,k,s,hk,hw,⟨q,hq,hf⟩=>by
  obtain⟨z6,m,hm,h1,h2,h3⟩:=Q5.1 hq;rw[zP]at h1;obtain⟨s',t,ma,mb,e1,e2,e3,e4,e5,e6,e7,e8,e9⟩:=h.mv m hm;rw[h1]at e1;have:s'=s:=by simp only[Int.toNat_natCast]at e1;rw[hk]at e1;exact(Option.some.inj e1).symm
  subst this;obtain⟨k1,k2⟩:=e9 x (hw x (by simp)) h2;have z1:q=((q.toNat:Nat):Int):=by omega
  rw[h3]at e2;rw[z1]at hf;obtain⟨f1,f2⟩:=h.go ha hb hp w q.toNat t e2 (λy hy=>hw y (by simp[hy])) hf;exact⟨⟨t.1,Q5.2 ⟨by rw[<-e7];exact(ha.mv ma e3).dst,ma,e3,by rw[zP];exact e5,k1,e7⟩,f1⟩,⟨t.2,Q5.2 ⟨by rw[<-e8];exact(hb.mv mb e4).dst,mb,e4,by rw[zP];exact e6,k2,e8⟩,f2⟩⟩
def Sim.lang{p a b:Aut}{prs:List (Int×Int)}(h:Sim p a b prs)(ha:OkA a)(hb:OkA b)(hp:OkA p){w:List Sy}(hw:∀x∈w,Q9 a x)(z1:Eo p w=true):Eo a w=true/\Eo b w=true:=by have:=h.go ha hb hp w 0 (0,0) h.first hw (by simpa using(Bn p w).1 z1);exact⟨(Bn a w).2 this.1,(Bn b w).2 this.2⟩
def Y2(by_:Int)(m:Mv):Mv:=⟨m.src+by_,m.dst+by_,m.on⟩
def Sz(f:Int)(l:List Mv):List Mv:=(l.filter λm=>decide (m.src=f)).map λm=>⟨0,m.dst,m.on⟩
def U9(a b:Aut):Aut:=
 ⟨a.types,(a.fin.getD 0 false || b.fin.getD 0 false)::(a.fin++b.fin),
  (Sz 1 (a.mv.map (Y2 1))++Sz (1+a.fin.length) (b.mv.map (Y2 (1+a.fin.length))))++a.mv.map (Y2 1)++b.mv.map (Y2 (1+a.fin.length))⟩
def c1q{a b:Aut}{m:Mv}(h:m∈a.mv):Y2 1 m∈(U9 a b).mv:=by unfold U9;simp only[zV];exact .inl (.inr (zO.2 ⟨m,h,rfl⟩))
def q1h{a b:Aut}{m:Mv}(h:m∈a.mv)(h0:m.src=0):(⟨0,m.dst+1,m.on⟩:Mv)∈(U9 a b).mv:=by unfold U9;simp only[zV];refine .inl (.inl (.inl ?_));unfold Sz;exact zO.2 ⟨Y2 1 m,xH.2 ⟨zO.2 ⟨m,h,rfl⟩,by simp[Y2,h0]⟩,rfl⟩
def Vu(a b:Aut):(U9 a b).fin.length=1+a.fin.length+b.fin.length:=by unfold U9;simp;omega
def w2j{a b:Aut}(ha:OkA a):∀(w:List Sy) (s:Int),inS a s->Ft a s w->Ft (U9 a b) (s+1) w
 |[],s,hs,hf=>by
  unfold Ft at hf |-;have h0:(s+1).toNat=s.toNat+1:=by have:=hs.1;omega
  have h1:s.toNat<a.fin.length:=by have:=hs.2;have:=hs.1;omega
  rw[h0];unfold U9;simp only[yL,List.getElem?_cons_succ]at hf |-;rw[zH h1];exact hf
 |x::w,s,hs,⟨q,hq,hf⟩=>by obtain⟨z1,m,hm,h1,h2,h3⟩:=Q5.1 hq;rw[zP]at h1;refine⟨q+1,Q5.2 ⟨⟨by omega,by rw[Vu];omega⟩,Y2 1 m,c1q hm,by rw[zP];simp[Y2,h1],h2,by simp[Y2,h3]⟩,w2j ha w q z1 hf⟩
def x2b{a b:Aut}(ha:OkA a){w:List Sy}(h:Eo a w=true):Eo (U9 a b) w=true:=by
 rw[Bn]at h |-;cases w with
 |nil=>
  unfold Ft at h |-;have h':a.fin[0]?.getD false=true:=by simpa[yL]using h
  unfold U9;simp[h']
 |cons x w=>obtain⟨q,hq,hf⟩:=h;obtain⟨z1,m,hm,h1,h2,h3⟩:=Q5.1 hq;rw[zP]at h1;exact⟨q+1,Q5.2 ⟨⟨by omega,by rw[Vu];omega⟩,_,q1h hm h1,by rw[zP],h2,by simp[h3]⟩,w2j ha w q z1 hf⟩
def Hn{f:Int}{l:List Mv}{m:Mv}(h:m∈Sz f l):∃n∈l,n.src=f/\m=⟨0,n.dst,n.on⟩:=by unfold Sz at h;obtain⟨n,hn,rfl⟩:=zO.1 h;have:=xH.1 hn;exact⟨n,this.1,by simpa using this.2,rfl⟩
def g2z{a b:Aut}(ha:OkA a)(hb:OkA b)(ht:b.types=a.types):WfA (U9 a b):=by
 have hA:∀m∈a.mv,(1<=(Y2 1 m).src/\(Y2 1 m).src<1+a.fin.length)/\(1<=(Y2 1 m).dst/\(Y2 1 m).dst<1+a.fin.length)/\PWf a.types.toNat m.on:=λm hm=>by have h:=ha.mv m hm;have:=h.src;have:=h.dst;refine⟨?_,?_,h.on.wf⟩<;>simp only[Y2]<;>omega
 have hB:∀m∈b.mv,(1+(a.fin.length:Int)<=(Y2 (1+a.fin.length) m).src/\(Y2 (1+a.fin.length) m).src<1+a.fin.length+b.fin.length)/\(1+(a.fin.length:Int)<=(Y2 (1+a.fin.length) m).dst/\(Y2 (1+a.fin.length) m).dst<1+a.fin.length+b.fin.length)/\PWf a.types.toNat m.on:=λm hm=>by have h:=hb.mv m hm;have:=h.src;have:=h.dst;refine⟨?_,?_,by rw[<-ht];exact h.on.wf⟩<;>simp only[Y2]<;>omega
 have all:∀m∈(U9 a b).mv,(0<=m.src/\m.src<(U9 a b).fin.length)/\(0<=m.dst/\m.dst<(U9 a b).fin.length)/\PWf a.types.toNat m.on:=λm hm=>by
  rw[Vu];unfold U9 at hm;simp only[zV]at hm;rcases hm with((hm|hm)|hm)|hm
  ·obtain⟨n,hn,_,rfl⟩:=Hn hm;obtain⟨k,hk,rfl⟩:=zO.1 hn;obtain⟨h1,h2,h3⟩:=hA k hk;exact⟨by simp only;omega,by simp only;omega,h3⟩
  ·obtain⟨n,hn,_,rfl⟩:=Hn hm;obtain⟨k,hk,rfl⟩:=zO.1 hn;obtain⟨h1,h2,h3⟩:=hB k hk;exact⟨by simp only;omega,by simp only;omega,h3⟩
  ·obtain⟨k,hk,rfl⟩:=zO.1 hm;obtain⟨h1,h2,h3⟩:=hA k hk;exact⟨by omega,by omega,h3⟩
  obtain⟨k,hk,rfl⟩:=zO.1 hm;obtain⟨h1,h2,h3⟩:=hB k hk;exact⟨by omega,by omega,h3⟩
 exact⟨ha.types,by rw[Vu];omega,λm hm=>(all m hm).1,λm hm=>(all m hm).2.1,λm hm=>(all m hm).2.2⟩
def L0(a:Aut)(s:Int):List Mv:=a.mv.filter λm=>decide (m.src=s)
def z08(p q:Prd):Bool:=(Wp p q).all λs=>decide (s.length<=256)
def x06{T:Nat}{p q:Prd}(hp:PCk T p)(hq:PCk T q)(h:z08 p q=true):PCk T (Wp p q):=by have hw:=Ta hp.wf hq.1;refine⟨hw.1,λs hs=>?_⟩;have h1:=hw.2 s hs;unfold z08 at h;rw[zX]at h;have h2:=h s hs;exact Dn h1.1 (q04 h1.1 h1.2) (by simpa using h2)
def v1o{T:Nat}{p q:Prd}(hp:PWf T p)(hq:PWf T q){x:Sy}(hx:0<=x.ty):Ry (Wp p q) x=true↔Ry p x=true/\Ry q x=true:=by rw[E7 (Ta hp hq.1).1 x hx,E7 hp.1 x hx,E7 hq.1 x hx,Er hp.1 hq.1]
structure PrI (a b:Aut) (PS:List (Int×Int)) (F:List Bool) (M:List Mv):Prop where
 first:PS[0]?=some (0,0)
 nd:PS.Nodup
 rg:∀s∈PS,inS a s.1/\inS b s.2
 fin:∀(k:Nat) (s:Int×Int),PS[k]?=some s->F.getD k false=true->a.fin.getD s.1.toNat false=true/\b.fin.getD s.2.toNat false=true
 mv:∀m∈M,(0<=m.src/\0<=m.dst)/\PCk a.types.toNat m.on/\∃(s t:Int×Int) (ma mb:Mv),PS[m.src.toNat]?=some s/\PS[m.dst.toNat]?=some t/\ma∈a.mv/\mb∈b.mv/\ma.src=s.1/\mb.src=s.2/\ma.dst=t.1/\mb.dst=t.2/\∀x,Q9 a x->Ry m.on x=true->Ry ma.on x=true/\Ry mb.on x=true
def PrI.start{a b:Aut}(ha:OkA a)(hb:OkA b):PrI a b [(0,0)] [] []:=by
 have h1:=ha.fin;have h2:=hb.fin;refine⟨rfl,by simp,λs hs=>?_,λk s _ hf=>?_,by simp⟩
 ·rw[zP.1 hs];unfold inS;simp only;omega
 simp at hf
def PrI.ps{a b:Aut}{PS:List (Int×Int)}{F:List Bool}{M:List Mv}(h:PrI a b PS F M){t:Int×Int}(ht:inS a t.1/\inS b t.2)(hn:t∉PS)(hF:F.length<=PS.length):PrI a b (PS++[t]) F M:=by
 have hp:∀(k:Nat) (s:Int×Int),PS[k]?=some s->(PS++[t])[k]?=some s:=λk s hk=>by rw[zH (zB.1 hk).1];exact hk
 refine⟨hp _ _ h.first,?_,λs hs=>?_,λk s hk hf=>?_,λm hm=>?_⟩
 ·rw[vL];refine⟨h.nd,by simp,λx hx y hy e=>hn ?_⟩;rw[zP]at hy;rw[<-hy,<-e];exact hx
 ·rcases zV.1 hs with hs|hs
  ·exact h.rg s hs
  rw[zP.1 hs];exact ht
 ·by_cases hk2:k<PS.length
  ·rw[zH hk2]at hk;exact h.fin k s hk hf
  have:F.getD k false=false:=by rw[yL,y_ (by omega)];rfl
  rw[this]at hf;cases hf
 obtain⟨h1,h2,s,u,ma,mb,e1,e2,r⟩:=h.mv m hm;exact⟨h1,h2,s,u,ma,mb,hp _ _ e1,hp _ _ e2,r⟩
def PrI.fn{a b:Aut}{PS:List (Int×Int)}{F:List Bool}{M:List Mv}(h:PrI a b PS F M){s:Int×Int}(hs:PS[F.length]?=some s):PrI a b PS (F++[a.fin.getD s.1.toNat false && b.fin.getD s.2.toNat false]) M:=by
 refine⟨h.first,h.nd,h.rg,λk t hk hf=>?_,h.mv⟩;by_cases hk2:k<F.length
 ·refine h.fin k t hk ?_;rw[yL,zH hk2]at hf;exact hf
 by_cases hk3:k=F.length
 ·subst hk3;rw[hs]at hk;cases hk;rw[yL,zF (Nat.le_refl _),Nat.sub_self]at hf;simpa using hf
 rw[yL,y_ (by simp;omega)]at hf;cases hf
def PrI.add {a b:Aut} (ha:OkA a) (hb:OkA b) (ht:b.types=a.types) {PS:List (Int×Int)} {F:List Bool} {M:List Mv} (h:PrI a b PS F M) {i k:Nat} {s:Int×Int} (hi:PS[i]?=some s) {ma mb:Mv} (h1:ma∈a.mv) (h2:mb∈b.mv) (e1:ma.src=s.1) (e2:mb.src=s.2)
  (hk:PS[k]?=some (ma.dst,mb.dst)) (z1:z08 ma.on mb.on=true):PrI a b PS F (M++[⟨i,k,Wp ma.on mb.on⟩]):=by
 refine⟨h.first,h.nd,h.rg,h.fin,λm hm=>?_⟩;rcases zV.1 hm with hm|hm
 ·exact h.mv m hm
 rw[zP.1 hm];have o1:=(ha.mv ma h1).on;have o2:=(hb.mv mb h2).on;rw[ht]at o2;refine⟨⟨by simp only;omega,by simp only;omega⟩,x06 o1 o2 z1,s,(ma.dst,mb.dst),ma,mb,by simpa using hi,by simpa using hk,h1,h2,e1,e2,rfl,rfl,λx hx hh=>(v1o o1.wf o2.wf hx.1.1).1 hh⟩
def PrI.sim{a b:Aut}(ha:OkA a){PS:List (Int×Int)}{F:List Bool}{M:List Mv}(h:PrI a b PS F M)(hl:F.length=PS.length)(h1:PS.length<=256)(h2:M.length<=2048):OkA ⟨a.types,F,M⟩/\Sim ⟨a.types,F,M⟩ a b PS:=by
 refine⟨⟨ha.types,⟨?_,by simpa[hl]using h1⟩,h2,λm hm=>?_⟩,⟨h.first,h.fin,λm hm=>?_⟩⟩
 ·have:=(zB.1 h.first).1;show 1<=F.length;omega
 ·obtain⟨⟨k1,k2⟩,k3,s,t,_,_,e1,e2,_⟩:=h.mv m hm;have l1:=(zB.1 e1).1;have l2:=(zB.1 e2).1;exact⟨⟨k1,by show m.src<(F.length:Int);omega⟩,⟨k2,by show m.dst<(F.length:Int);omega⟩,k3⟩
 obtain⟨_,_,s,t,ma,mb,r⟩:=h.mv m hm;exact⟨s,t,ma,mb,r⟩
def j2h{a b:Aut}{m:Mv}(h:m∈(U9 a b).mv):(∃k∈a.mv,m.on=k.on)\/∃k∈b.mv,m.on=k.on:=by
 unfold U9 at h;simp only[zV]at h;rcases h with((h|h)|h)|h
 ·obtain⟨n,hn,_,rfl⟩:=Hn h;obtain⟨k,hk,rfl⟩:=zO.1 hn;exact .inl ⟨k,hk,rfl⟩
 ·obtain⟨n,hn,_,rfl⟩:=Hn h;obtain⟨k,hk,rfl⟩:=zO.1 hn;exact .inr ⟨k,hk,rfl⟩
 ·obtain⟨k,hk,rfl⟩:=zO.1 h;exact .inl ⟨k,hk,rfl⟩
 obtain⟨k,hk,rfl⟩:=zO.1 h;exact .inr ⟨k,hk,rfl⟩
def j2w{a b:Aut}(ha:OkA a)(hb:OkA b)(ht:b.types=a.types)(h1:(U9 a b).fin.length<=256)(h2:(U9 a b).mv.length<=2048):OkA (U9 a b):=by
 have hw:=g2z ha hb ht;refine⟨hw.types,⟨hw.fin,h1⟩,h2,λm hm=>⟨hw.src m hm,hw.dst m hm,?_⟩⟩;show PCk a.types.toNat m.on;rcases j2h hm with⟨k,hk,e⟩|⟨k,hk,e⟩
 ·rw[e];exact(ha.mv k hk).on
 rw[e,<-ht];exact(hb.mv k hk).on
end Go.Abs
