/- Part Vj of the proof: steps on the way to the last part. No condition. -/
import Derived.Test.YtjmkolhkojgjpaaGreatDoorVi
import Derived.Test.YtjmkolhkojgjpaaGreatDoorVh
import Derived.Test.YtjmkolhkojgjpaaGreatDoorVg
import Derived.Test.YtjmkolhkojgjpaaGreatDoorVc
import Derived.Shelf.SlGeneric
import Derived.Ground.SlsfProg
import Derived.Shelf.SlSortCmp.WholeK
import Derived.Test.YtjmkolhkojgjpaaGreatDoorProg
import Derived.DeepKeys4
set_option linter.all false
open List renaming take_succ_eq_append_getElem->zY,filter_append->uO,filter_cons->td,filter_nil->sc,length_filter_le->xN,length_take->wC,range->y_,getElem?_append_left->zI,ext_getElem?->xQ,getElem?_set_self->zS,getElem?_set_ne->zH,getElem?_eq_none->xF,map_congr_left->xH,map_map->vV,mem_range->xD,take_of_length_le->zZ,all_eq_true->yE,mem_map->zU,length_cons->xI,length_nil->sd,getElem_mem->zT,getElem?_append_right->zO,getElem_eq_iff->yI,getElem?_eq_getElem->zP,take_length->yR,flatMap_append->wS,filterMap_append->uA,take_append_drop->xW,getElem?_map->z_,append_nil->xO,append_assoc->xU,length_pos_iff->uS,pairwise_iff_getElem->yU,getElem?_eq_some_iff->zE,range_succ->vz,mem_of_getElem?->zL,map_append->xA,length_append->yP,nodup_append->vD,map_id'->sA,mem_append->yB,drop_eq_getElem_cons->wQ,set_append_right->uB,length_map->yL,map->uP,drop_length->x_
open Nat renaming le_trans->yW,le_refl->zW,zero_le->xP,succ_mul->uU,mul_le_mul->uF,succ_le_succ->se
open Bool renaming eq_iff_iff->wB,or_eq_true->vB,and_eq_true->yJ,not_eq_true->uI,false_eq_true->uV
open Array renaming getElem?_append_left->yY,getElem?_modify->w_
open Option renaming map_eq_some_iff->zX,map_some->wP
set_option maxHeartbeats 16000000
set_option linter.unusedSimpArgs false
set_option maxRecDepth 100000
open Go.Proofs.Tryz
namespace Go.Abs
open Go Go.Proofs Go.Maps Go.RowKit
section
attribute [simp] c2a d2n c2e f2s T66 T41
def Yf(a:Aut)(j k:Nat):List Mv:=(a.mv.take j).filter λm=>decide (m.src=(k:Int)) && !Wp m.on
def f0x(a:Aut)(k:Nat):Yf a a.mv.length k=Wa a k:=by simp[Yf,Wa]
def U5(a:Aut)(k:Nat):Yf a 0 k=[]:=by simp[Yf]
def u0p(a:Aut){j:Nat}(h:j<a.mv.length)(k:Nat):Yf a (j+1) k=Yf a j k++(if decide (a.mv[j].src=(k:Int)) && !Wp a.mv[j].on then [a.mv[j]]else []):=by
 unfold Yf;rw[zY h,uO]
 congr 1
 rw[td,sc]
def f0y(a:Aut)(j k:Nat):(Yf a j k).length<=a.mv.length:=by unfold Yf;refine yW (xN _ _) ?_;rw[wC];omega
def Yk(l:List Mv):AV:= .list (l.map encMv)
def Tj(a:Aut):List AV:=(y_ a.fin.length).map λk:Nat=>Yk (Wa a k)
def Q3(a:Aut):List AV:=[.i a.types,.list (a.fin.map .bool),.list (a.mv.map encMv),.list (Tj a)]
def Rc(a:Aut):AV:= .agg (Q3 a)
def D5(p:Nat)(xs:List Mv):AV:=if xs=[]then .nils else .sl p 3 0 xs.length
def J7(n:Nat)(L:Nat->Nat)(rs:Nat->List Mv):List AV:=(y_ n).map λk=>D5 (L k) (rs k)
def Ov(n:Nat)(L:Nat->Nat)(rs:Nat->List Mv):(J7 n L rs).length=n:=by simp[J7]
def Jp{n:Nat}(L:Nat->Nat)(rs:Nat->List Mv){k:Nat}(h:k<n):(J7 n L rs)[k]?=some (D5 (L k) (rs k)):=by simp[J7,h]
structure MR (K:List AObj) (n o:Nat) (rs:Nat->List Mv) (L:Nat->Nat) (H:List AObj):Prop where
 out:H[o]?=some (.va 23 1 (J7 n L rs))
 leaf:∀k,k<n->rs k≠[]->H[L k]?=some (.arr 73 3 ((rs k).map encMv))
 inj:∀k k',k<n->k'<n->rs k≠[]->rs k'≠[]->L k=L k'->k=k'
 ne:∀k,k<n->rs k≠[]->L k≠o
 geo:K.length<=o
 geL:∀k,k<n->rs k≠[]->K.length<=L k
 keep:∀j,j<K.length->H[j]? =K[j]?
def MR.grow{K:List AObj}{n o:Nat}{rs:Nat->List Mv}{L:Nat->Nat}{H:List AObj}(h:MR K n o rs L H)(E:List AObj):MR K n o rs L (H++E):=by have z1:=h.geo;have ho:=Qf h.out;exact⟨Qb h.out E,λk hk hn=>Qb (h.leaf k hk hn) E,h.inj,h.ne,h.geo,h.geL,λj hj=>by rw[zI (by omega)];exact h.keep j hj⟩
def MR.put {K:List AObj} {n o:Nat} {rs:Nat->List Mv} {L:Nat->Nat} {H H':List AObj} (h:MR K n o rs L H) {i:Nat} (hi:i<n) {m:Mv} {np:Nat} (zc:H.length<=np)
  (za:H'[o]?=some (.va 23 1 ((J7 n L rs).set i (.sl np 3 0 ((rs i).length+1))))) (z6:H'[np]?=some (.arr 73 3 ((rs i++[m]).map encMv)))
  (hk:∀j,j<H.length->j≠o->(rs i≠[]->j≠L i)->H'[j]? =H[j]?):MR K n o (λk=>if k=i then rs i++[m]else rs k) (λk=>if k=i then np else L k) H':=by
 have lo:=Qf h.out;have lL:=λk hk hn=>Qf (h.leaf k hk hn);refine⟨?_,λk z1 hn=>?_,λk k' z1 z7 hn z8 e=>?_,λk z1 hn=>?_,h.geo,λk z1 hn=>?_,λj hj=>?_⟩
 ·rw[za]
  congr 2
  refine xQ λk=>?_;by_cases z1:k<n
  ·rw[Jp _ _ z1];by_cases e:k=i
   ·subst e;rw[zS (by rw[Ov];exact z1)];simp[D5]
   rw[zH (λe'=>e e'.symm),Jp _ _ z1];simp[e]
  rw[xF (by rw[List.length_set,Ov];omega),xF (by rw[Ov];omega)]
 ·by_cases e:k=i
  ·subst e;simpa using z6
  simp only[e,if_false]at hn |-;rw[hk _ (lL k z1 hn) (h.ne k z1 hn) (λzb e'=>e (h.inj k i z1 hi hn zb e'))];exact h.leaf k z1 hn
 ·by_cases e1:k=i
  ·by_cases e2:k'=i
   ·rw[e1,e2]
   simp only[e1,e2,if_true,if_false]at e z8;have:=lL k' z7 z8;omega
  by_cases e2:k'=i
  ·simp only[e1,e2,if_true,if_false]at e hn;have:=lL k z1 hn;omega
  simp only[e1,e2,if_false]at e hn z8;exact h.inj k k' z1 z7 hn z8 e
 ·by_cases e:k=i
  ·simp only[e,if_true];omega
  simp only[e,if_false]at hn |-;exact h.ne k z1 hn
 ·have zd:=h.geo;by_cases e:k=i
  ·simp only[e,if_true];omega
  simp only[e,if_false]at hn |-;exact h.geL k z1 hn
 have ze:=h.geo;rw[hk j (by omega) (by omega) (λzb e=>by have:=h.geL i hi zb;omega)];exact h.keep j hj
def q0t(n:Nat)(L:Nat->Nat)(rs:Nat->List Mv)(k:Nat):List AV:=(y_ n).map λi=>if i<k/\rs i≠[]then Yk (rs i)else D5 (L i) (rs i)
section
variable {P:Program} [Env P] {nt kk:Nat} {cd:Code} {Q:Exit->AS->Prop}
def f06(n:Nat)(L:Nat->Nat)(rs:Nat->List Mv):q0t n L rs 0=J7 n L rs:=by unfold q0t J7;exact xH λi _=>by rw[if_neg (by omega)]
def g1x{n:Nat}{L:Nat->Nat}{rs:Nat->List Mv}{k:Nat}(h:rs k=[]):q0t n L rs (k+1)=q0t n L rs k:=by
 unfold q0t;refine xH λi _=>?_;by_cases e:i=k
 ·subst e;simp[h]
 by_cases h2:i<k
 ·simp[h2,show i<k+1 by omega]
 simp[h2,show ¬i<k+1 by omega]
def j1s{i c:Nat}{ys:List AV}{xs:List Mv}{p:Nat}(h:xs=[]\/p≠i):(D5 p xs).fz i c ys=D5 p xs:=by
 unfold D5;split
 ·simp[AV.fz]
 rw[AV.fz,if_neg];rintro⟨e,_⟩;rcases h with h|h
 ·contradiction
 exact h e
def x1o{n:Nat}{L:Nat->Nat}{rs:Nat->List Mv}(z1:∀k k',k<n->k'<n->rs k≠[]->rs k'≠[]->L k=L k'->k=k'){k:Nat}(hk:k<n)(h:rs k≠[]):
  (q0t n L rs k).map (AV.fz (L k) 3 ((rs k).map encMv))=q0t n L rs (k+1):=by
 unfold q0t;rw[vV];refine xH λi hi=>?_;have z6:=xD.1 hi;simp only[Function.comp_apply];by_cases e:i=k
 ·subst e;simp only[Nat.lt_irrefl,false_and,if_false];rw[if_pos ⟨by omega,h⟩,D5,if_neg h,AV.fz,if_pos ⟨rfl,rfl,by simp⟩];simp[Yk,zZ]
 by_cases h2:i<k/\rs i≠[]
 ·rw[if_pos h2,if_pos ⟨by omega,h2.2⟩];simp[Yk,AV.fz]
 rw[if_neg h2,if_neg (λh3=>h2 ⟨by omega,h3.2⟩)];refine j1s ?_;by_cases hr:rs i=[]
 ·exact .inl hr
 exact .inr λe2=>e (z1 i k z6 hk hr h e2)
def MR.freeze {n o:Nat} {rs:Nat->List Mv} {L:Nat->Nat} {sl:List (Nat×AV)} (z1:∀k k',k<n->k'<n->rs k≠[]->rs k'≠[]->L k=L k'->k=k') (z7:∀k,k<n->rs k≠[]->L k≠o)
  (zb:∀k,k<n->rs k≠[]->sl.map (λp=>(p.1,p.2.fz (L k) 3 ((rs k).map encMv)))=sl):∀(d k:Nat) (H:List AObj),k+d=n->H[o]?=some (.va 23 1 (q0t n L rs k))->(∀i,k<=i->i<n->rs i≠[]->H[L i]?=some (.arr 73 3 ((rs i).map encMv)))->
  (∀H',H'[o]?=some (.va 23 1 (q0t n L rs n))->(∀j,j<H.length->j≠o->(∀i,k<=i->i<n->rs i≠[]->j≠L i)->H'[j]? =H[j]?)->AWP P nt kk cd Q ⟨sl,H'⟩)->AWP P nt kk cd Q ⟨sl,H⟩
 |0,k,H,hd,ho,hl,h=>by
  have:k=n:=by omega
  subst this;exact h H ho λ_ _ _ _=>rfl
 |d+1,k,H,hd,ho,hl,h=>by
  by_cases hr:rs k=[]
  ·refine MR.freeze z1 z7 zb d (k+1) H (by omega) (by rw[g1x hr];exact ho) (λi hi=>hl i (by omega)) λH' zc zd=>h H' zc λj hj z8 za=>zd j hj z8 λi hi=>za i (by omega)
  have z6:k<n:=by omega
  have zg:=z7 k z6 hr;have zh:=hl k (zW _) z6 hr;refine Iz (L k) zh o ho (Ne.symm zg) rfl ?_;rw[zb k z6 hr];have zi:=Qf ho;have e:AObj.fz (L k) 3 ((rs k).map encMv) (.va 23 1 (q0t n L rs k))= .va 23 1 (q0t n L rs (k+1)):=by rw[AObj.fz,x1o z1 z6 hr]
  rw[e];refine MR.freeze z1 z7 zb d (k+1) _ (by omega) (zS (by simpa using zi)) (λi hi ze zf=>?_) λH' zc zd=>h H' zc λj hj z8 za=>?_
  ·rw[zH (Ne.symm (z7 i ze zf)),zH (λe2=>by have:=z1 k i z6 ze hr zf e2;omega)];exact hl i (by omega) ze zf
  rw[zd j (by simpa using hj) z8 λi hi=>za i (by omega),zH (Ne.symm z8),zH (Ne.symm (za k (zW _) z6 hr))]
end
def w2f(n:Nat)(L:Nat->Nat)(rs:Nat->List Mv):(q0t n L rs n).all (λx=>x.cells.all AV.pure)=true/\(q0t n L rs n).map AV.nrm=(y_ n).map λk=>Yk (rs k):=by
 have hc:∀i,i<n->(if i<n/\rs i≠[]then Yk (rs i)else D5 (L i) (rs i))=if rs i=[]then .nils else Yk (rs i):=λi hi=>by
  by_cases hr:rs i=[]
  ·rw[if_neg (λh=>h.2 hr),if_pos hr,D5,if_pos hr]
  rw[if_pos ⟨hi,hr⟩,if_neg hr]
 have e:q0t n L rs n=(y_ n).map λi=>if rs i=[]then .nils else Yk (rs i):=xH λi hi=>hc i (xD.1 hi)
 rw[e];constructor
 ·rw[List.all_map,yE];intro i _;simp only[Function.comp_apply];split
  ·simp[AV.cells,AV.pure]
  simp[Yk,AV.cells,AV.pure]
 rw[vV];refine xH λi _=>?_;simp only[Function.comp_apply];split
 ·rename_i h;rw[h];simp[Yk,AV.nrm]
 simp[Yk,AV.nrm]
attribute [local irreducible] Yf E4 Wa
def Ik(a:Aut)(ha:OkA a):PC prog 57 [encA a] (λr=>r=Rc a):=by
 refine pcB func57 results57 ntmps57 ?_;simp only[Qe];simp only[encA];have y4:=ha.fin;have yf:=ha.mvs;repeat(refine s_ ?_;simp)
 refine U0 (P:=prog) tOk mixed [7] (.val 0 (.val 1 (.val 2 (.val 3 (.two 4 (.val 5 (.one 6 (.one 7 (.done)))) 6 (.one 4 (.val 5 (.one 7 (.done))))))))) (λS'=>∃o c:Nat,o≠c/\2<=o/\2<=c/\S'.hp[0]?=some (.vars (Ql a))/\S'.hp[1]?=some (.vars [.i 0,.nils,.nils,.nils])/\S'.hp[o]?=some (.arr 23 1 (List.replicate a.fin.length .nils))/\S'.hp[c]?=some (.vars [.i a.types,.list (a.fin.map .bool),.list (a.mv.map encMv),.sl o 1 0 a.fin.length])/\look S'.sl 1=some (.vptr 0 0)/\look S'.sl 2=some (.vptr 1 0)/\look S'.sl 3=some (.vptr c 0)) rfl (by kernel_rfl) ?_ ?_
 ·simp
  repeat' (first
   |refine And.intro ?_ ?_
   |(refine Er tOk rfl rfl rfl d2n rfl T23 rfl rfl rfl (n:=a.fin.length) (by simp;omega) (by unfold maxLen;omega) .nils rfl ?_;simp))
  ·exact⟨2,3,by simp[Ql]⟩
  exact⟨3,2,by simp[Ql]⟩
 rintro⟨sl,H⟩ ⟨o,c,zq,y5,yg,h0,h1,ho,hc,s1,s2,s3⟩;simp only at h0 h1 ho hc s1 s2 s3;simp;refine Qp (sl':=[(1,.vptr 0 0),(2,.vptr 1 0),(3,.vptr c 0)]) ?_ (by simp[s1,s2,s3]);refine G8 o ho ?_;refine Wb λZ hZ=>?_;have z0:Z[0]?=some (.vars (Ql a)):=by rw[hZ,zH (by omega)];exact h0
 have zc:Z[c]?=some (.vars [.i a.types,.list (a.fin.map .bool),.list (a.mv.map encMv),.sl o 1 0 a.fin.length]):=by rw[hZ,zH zq];exact hc
 have zM:MR [.vars (Ql a),.vars [.i 0,.nils,.nils,.nils]] a.fin.length o (Yf a 0) (λ_=>0) Z:=by
  refine⟨?_,λk _ hn=>absurd (U5 a k) hn,λk _ _ _ hn=>absurd (U5 a k) hn,λk _ hn=>absurd (U5 a k) hn,by simpa using y5,λk _ hn=>absurd (U5 a k) hn,λj hj=>?_⟩
  ·rw[hZ,zS (Qf ho)]
   congr 2
   rw[eq_comm,List.eq_replicate_iff];refine⟨Ov _ _ _,λx hx=>?_⟩;obtain⟨k,_,rfl⟩:=zU.1 hx;simp[D5,U5]
  simp only[xI,sd]at hj;rw[hZ,zH (by omega)];rcases j with _|_|j
  ·exact h0
  ·exact h1
  omega
 clear hZ h0 h1 ho hc;clear H;repeat(refine s_ ?_;simp[z0])
 refine Qi (Qc (sl':=[(1,.vptr 0 0),(2,.vptr 1 0),(3,.vptr c 0),(15,.list (a.mv.map encMv)),(16,.i a.mv.length),(17,.i (0:Nat))]) ?_ (by simp));refine Qj (F:=λ(u:Nat×(Nat->Nat)×List AObj)=>⟨[(1,.vptr 0 0),(2,.vptr 1 0),(3,.vptr c 0),(15,.list (a.mv.map encMv)),(16,.i a.mv.length),(17,.i u.1)],u.2.2⟩)
  (λu=>u.1<=a.mv.length/\u.2.2[c]?=some (.vars [.i a.types,.list (a.fin.map .bool),.list (a.mv.map encMv),.sl o 1 0 a.fin.length])/\MR [.vars (Ql a),.vars [.i 0,.nils,.nils,.nils]] a.fin.length o (Yf a u.1) u.2.1 u.2.2) (λu=>a.mv.length - u.1) ?_ (0,λ_=>0,Z) ⟨xP _,zc,zM⟩
 clear z0 zc zM;clear Z;rintro⟨j,L,G⟩ ⟨hj,gc,gM⟩ ih;simp only at hj gc gM ih |-;repeat(refine s_ ?_;simp)
 refine Qa rfl (λy6=>?_) (λy7=>?_)
 ·have zd:j<a.mv.length:=by simpa using y6
  have hw:=wz j (by omega);have y0:=u0p a zd;have y8:=f0y a j;have zr:=ha.mv _ (zT zd);have zt:=v0u ha (zT zd);have zo:=λL' G'=>ih (j+1,L',G');simp only at zo;repeat(refine s_ ?_;simp[zd])
  generalize a.mv[j]=m at *;refine pcL (A4 a.types.toNat m.on m.on zr.on.wf zr.on.wf (λs hs=>by have:=zt s hs;omega) (λs hs=>by have:=zt s hs;omega) (by have:=ha.types;omega)) ?_
  simp;rw[z0f zr.on.wf];cases hv:Wp m.on with
  |true=>
   have ze:Yf a (j+1)=Yf a j:=funext λk=>by rw[y0 k,hv];simp
   rw[ze]at zo;simp[He,encSy];repeat(refine s_ ?_;simp)
   refine Qv rfl ?_;repeat(refine s_ ?_;simp[hw])
   refine Qc (sl':=[(1,.vptr 0 0),(2,.vptr 1 0),(3,.vptr c 0),(15,.list (a.mv.map encMv)),(16,.i a.mv.length),(17,.i (j+1:Nat))]) ?_ (by simp);exact zo L _ ⟨by omega,Qb gc _,gM.grow _⟩ (by omega)
  |false=>
   obtain⟨k,hk⟩:∃k:Nat,m.src=k:=⟨m.src.toNat,by have:=zr.src.1;omega⟩
   have z7:k<a.fin.length:=by have:=zr.src.2;omega
   have ze:Yf a (j+1)=λk'=>if k'=k then Yf a j k++[m]else Yf a j k':=funext λk'=>by
    rw[y0 k',hv];by_cases e:k'=k
    ·subst e;simp[hk]
    have:¬m.src=(k':Int):=by omega
    simp[e,this]
   rw[ze]at zo;simp[He,encSy];repeat(refine s_ ?_;simp)
   refine Qv rfl ?_;refine Wb λZ hZ=>?_;have zc:Z[c]?=some (.vars [.i a.types,.list (a.fin.map .bool),.list (a.mv.map encMv),.sl o 1 0 a.fin.length]):=by rw[hZ];exact Qb gc _
   have zM:MR [.vars (Ql a),.vars [.i 0,.nils,.nils,.nils]] a.fin.length o (Yf a j) L Z:=by rw[hZ];exact gM.grow _
   have zm:Z[G.length]?=some (.vars [.i m.src,.i m.dst,.list (m.on.map encL)]):=by rw[hZ,zO (by simp)];simp
   clear hZ gc gM y0 ze;generalize G.length=g at *;clear G
   have z6:=Jp L (Yf a j) z7;have zj:=Ov a.fin.length L (Yf a j);have z8:=zM.out;have zu:=zM.leaf k z7;rw[hk]at zm;have zb:∀M,(Z++M)[c]?=some (.vars [.i a.types,.list (a.fin.map .bool),.list (a.mv.map encMv),.sl o 1 0 a.fin.length]):=λM=>Qb zc M;have outA:∀M,(Z++M)[o]?=some (.va 23 1 (J7 a.fin.length L (Yf a j))):=λM=>Qb z8 M;have zf:∀M,(Z++M)[g]?=some (.vars [.i k,.i m.dst,.list (m.on.map encL)]):=λM=>Qb zm M;have zk:∀M hh,(Z++M)[c]'hh= .vars [.i a.types,.list (a.fin.map .bool),.list (a.mv.map encMv),.sl o 1 0 a.fin.length]:=λM hh=>(yI hh).2 (zb M);have outH:∀M hh,(Z++M)[o]'hh= .va 23 1 (J7 a.fin.length L (Yf a j)):=λM hh=>(yI hh).2 (outA M);have zl:∀M hh,(Z++M)[g]'hh= .vars [.i k,.i m.dst,.list (m.on.map encL)]:=λM hh=>(yI hh).2 (zf M);repeat(refine s_ ?_;simp)
   generalize zv:J7 a.fin.length L (Yf a j)=RC at *
   have yh:=y8 k;generalize zh:Yf a j k=rs at *
   by_cases hr0:rs=[]
   ·rw[D5,if_pos hr0]at z6;have zi:∀hh,RC[k]'hh= .nils:=λhh=>by rw[zP hh]at z6;exact Option.some.inj z6
    refine U0 (P:=prog) tOk mixed [12,14] (.val 0 (.val 2 (.val 4 (.val 5 (.val 6 (.val 7 (.val 8 (.val 9 (.val 10 (.three 1 (.two 3 (.one 11 (.one 12 (.val 13 (.one 14 (.done))))) 11 (.two 3 (.one 12 (.val 13 (.one 14 (.done)))) 12 (.val 3 (.val 13 (.one 14 (.done)))))) 3 (.two 1 (.one 11 (.one 12 (.val 13 (.one 14 (.done))))) 11 (.two 1 (.one 12 (.val 13 (.one 14 (.done)))) 12 (.val 1 (.val 13 (.one 14 (.done)))))) 11 (.three 1 (.two 3 (.one 12 (.val 13 (.one 14 (.done)))) 12 (.val 3 (.val 13 (.one 14 (.done))))) 3 (.two 1 (.one 12 (.val 13 (.one 14 (.done)))) 12 (.val 1 (.val 13 (.one 14 (.done))))) 12 (.val 1 (.val 3 (.val 13 (.one 14 (.done)))))))))))))))) (λS'=>S'.hp=(Z++[AObj.arr 73 3 [.agg [.i k,.i m.dst,.list (m.on.map encL)]],AObj.arr 73 3 [.agg [.i k,.i m.dst,.list (m.on.map encL)]]]).set o (.va 23 1 (RC.set k (.sl (Z.length+1) 3 0 1)))/\look S'.sl 1=some (.vptr 0 0)/\look S'.sl 2=some (.vptr 1 0)/\look S'.sl 3=some (.vptr c 0)/\look S'.sl 15=some (.list (a.mv.map encMv))/\look S'.sl 16=some (.i a.mv.length)/\look S'.sl 17=some (.i j)) rfl (by kernel_rfl) ?_ ?_
    ·simp[zc,z8,zm,z6,zi,z7,zj,zb,outA,zf,zk,outH,zl]
     repeat' (first
      |refine And.intro ?_ ?_
      |(refine apS T23 T73 ?_;simp[zb,outA,zf,zk,outH,zl,z6,zi,z7,zj];refine⟨by simp[W1]<;>omega,?_⟩;simp[zb,outA,zf,zk,outH,zl,z6,zi,z7,zj]))
    rintro⟨sl,E⟩ ⟨rfl,s1,s2,s3,s15,s16,s17⟩;simp only at s1 s2 s3 s15 s16 s17;simp;refine Qp (sl':=[(1,.vptr 0 0),(2,.vptr 1 0),(3,.vptr c 0),(15,.list (a.mv.map encMv)),(16,.i a.mv.length),(17,.i j)]) ?_ (by simp[s1,s2,s3,s15,s16,s17]);repeat(refine s_ ?_;simp[hw])
    refine Qc (sl':=[(1,.vptr 0 0),(2,.vptr 1 0),(3,.vptr c 0),(15,.list (a.mv.map encMv)),(16,.i a.mv.length),(17,.i (j+1:Nat))]) ?_ (by simp);have zx:=Qf z8;have za:=zM.put z7 (m:=m) (np:=Z.length+1) (H':=(Z++[AObj.arr 73 3 [.agg [.i k,.i m.dst,.list (m.on.map encL)]],AObj.arr 73 3 [.agg [.i k,.i m.dst,.list (m.on.map encL)]]]).set o (.va 23 1 (RC.set k (.sl (Z.length+1) 3 0 1)))) (by omega)
     (by rw[zS (by simp;omega),zv,zh,hr0];rfl) (by rw[zH (by omega),zO (by omega),zh,hr0];simp[hk]) (λjj h1 h2 _=>by rw[zH (Ne.symm h2),zI h1])
    rw[zh]at za;exact zo _ _ ⟨by omega,by rw[zH zq];exact zb _,za⟩ (by omega)
   rw[D5,if_neg hr0]at z6;have zi:∀hh,RC[k]'hh= .sl (L k) 3 0 rs.length:=λhh=>by rw[zP hh]at z6;exact Option.some.inj z6
   have zp:=zu hr0;have hlo:=zM.ne k z7 (by rw[zh];exact hr0);have y9:L k≠c:=λe=>by rw[e,zc]at zp;simp at zp
   have ya:L k≠g:=λe=>by rw[e,zm]at zp;simp at zp
   have yi:=Qf zp;have zg:∀M,(Z++M)[L k]?=some (.arr 73 3 (rs.map encMv)):=λM=>Qb zp M;have zn:∀M hh,(Z++M)[L k]'hh= .arr 73 3 (rs.map encMv):=λM hh=>(yI hh).2 (zg M);generalize yb:L k=p at *
   have outS:∀M M',((Z++M).set p .dead++M')[o]?=some (.va 23 1 RC):=λM M'=>Qb (Qd hlo (outA M) _) M';have outSH:∀M M' hh,((Z++M).set p .dead++M')[o]'hh= .va 23 1 RC:=λM M' hh=>(yI hh).2 (outS M M');have zw:∀M M',((Z++M).set p .dead++M')[c]?=some (.vars [.i a.types,.list (a.fin.map .bool),.list (a.mv.map encMv),.sl o 1 0 a.fin.length]):=λM M'=>Qb (Qd y9 (zb M) _) M';have zcSH:∀M M' hh,((Z++M).set p .dead++M')[c]'hh= .vars [.i a.types,.list (a.fin.map .bool),.list (a.mv.map encMv),.sl o 1 0 a.fin.length]:=λM M' hh=>(yI hh).2 (zw M M');have zy:∀M M',((Z++M).set p .dead++M')[g]?=some (.vars [.i k,.i m.dst,.list (m.on.map encL)]):=λM M'=>Qb (Qd ya (zf M) _) M';have zmSH:∀M M' hh,((Z++M).set p .dead++M')[g]'hh= .vars [.i k,.i m.dst,.list (m.on.map encL)]:=λM M' hh=>(yI hh).2 (zy M M');refine U0 (P:=prog) tOk mixed [12,14] (.val 0 (.val 2 (.val 4 (.val 5 (.val 6 (.val 7 (.val 8 (.val 9 (.val 10 (.three 1 (.two 3 (.one 11 (.one 12 (.val 13 (.one 14 (.done))))) 11 (.two 3 (.one 12 (.val 13 (.one 14 (.done)))) 12 (.val 3 (.val 13 (.one 14 (.done)))))) 3 (.two 1 (.one 11 (.one 12 (.val 13 (.one 14 (.done))))) 11 (.two 1 (.one 12 (.val 13 (.one 14 (.done)))) 12 (.val 1 (.val 13 (.one 14 (.done)))))) 11 (.three 1 (.two 3 (.one 12 (.val 13 (.one 14 (.done)))) 12 (.val 3 (.val 13 (.one 14 (.done))))) 3 (.two 1 (.one 12 (.val 13 (.one 14 (.done)))) 12 (.val 1 (.val 13 (.one 14 (.done))))) 12 (.val 1 (.val 3 (.val 13 (.one 14 (.done)))))))))))))))) (λS'=>S'.hp=((Z++[AObj.arr 73 3 [.agg [.i k,.i m.dst,.list (m.on.map encL)]]]).set p .dead++[AObj.arr 73 3 (rs.map encMv++[.agg [.i k,.i m.dst,.list (m.on.map encL)]])]).set o (.va 23 1 (RC.set k (.sl (Z.length+1) 3 0 (rs.length+1))))/\look S'.sl 1=some (.vptr 0 0)/\look S'.sl 2=some (.vptr 1 0)/\look S'.sl 3=some (.vptr c 0)/\look S'.sl 15=some (.list (a.mv.map encMv))/\look S'.sl 16=some (.i a.mv.length)/\look S'.sl 17=some (.i j)) rfl (by kernel_rfl) ?_ ?_
   ·simp[zc,z8,zm,z6,zi,z7,zj,zb,outA,zf,zk,outH,zl,zg,zn]
    repeat' (first
     |refine And.intro ?_ ?_
     |(refine apS T23 T73 ?_;simp[zb,outA,zf,zk,outH,zl,z6,zi,z7,zj,zg,zn,outS,outSH,zw,zcSH,zy,zmSH];refine⟨by simp[W1]<;>omega,?_⟩;simp[zb,outA,zf,zk,outH,zl,z6,zi,z7,zj,outS,outSH,zw,zcSH,zy,zmSH])
     |(refine apS T23 T73 ?_;simp[zb,outA,zf,zk,outH,zl,z6,zi,z7,zj,zg,zn,outS,outSH,zw,zcSH,zy,zmSH];simp[W1]<;>omega)
     |omega)
   rintro⟨sl,E⟩ ⟨rfl,s1,s2,s3,s15,s16,s17⟩;simp only at s1 s2 s3 s15 s16 s17;simp;refine Qp (sl':=[(1,.vptr 0 0),(2,.vptr 1 0),(3,.vptr c 0),(15,.list (a.mv.map encMv)),(16,.i a.mv.length),(17,.i j)]) ?_ (by simp[s1,s2,s3,s15,s16,s17]);repeat(refine s_ ?_;simp[hw])
   refine Qc (sl':=[(1,.vptr 0 0),(2,.vptr 1 0),(3,.vptr c 0),(15,.list (a.mv.map encMv)),(16,.i a.mv.length),(17,.i (j+1:Nat))]) ?_ (by simp);have zx:=Qf z8;have za:=zM.put z7 (m:=m) (np:=Z.length+1) (H':=((Z++[AObj.arr 73 3 [.agg [.i k,.i m.dst,.list (m.on.map encL)]]]).set p .dead++[AObj.arr 73 3 (rs.map encMv++[.agg [.i k,.i m.dst,.list (m.on.map encL)]])]).set o (.va 23 1 (RC.set k (.sl (Z.length+1) 3 0 (rs.length+1))))) (by omega)
    (by rw[zS (by simp;omega),zv,zh]) (by rw[zH (by omega),zO (by simp),zh];simp[hk]) (λjj h1 h2 h3=>by
     have h4:p≠jj:=λe=>h3 (by rw[zh];exact hr0) (by rw[yb];exact e.symm);rw[zH (Ne.symm h2),zI (by simp;omega),zH h4,zI h1])
   rw[zh]at za;exact zo _ _ ⟨by omega,by rw[zH zq];exact zw _ _,za⟩ (by omega)
 have y1:j=a.mv.length:=by simp at y7;omega
 subst y1;refine Qp (sl':=[(1,.vptr 0 0),(2,.vptr 1 0),(3,.vptr c 0)]) ?_ (by simp);refine MR.freeze (n:=a.fin.length) (o:=o) gM.inj gM.ne (λk hk hn=>by simp[AV.fz]) a.fin.length 0 G (by omega) (by rw[f06];exact gM.out) (λk _ hk hn=>gM.leaf k hk hn) λH' y2 zz=>?_;obtain⟨yc,yd⟩:=w2f a.fin.length L (Yf a a.mv.length);have y3:H'[c]?=some (.vars [.i a.types,.list (a.fin.map .bool),.list (a.mv.map encMv),.sl o 1 0 a.fin.length]):=by rw[zz c (Qf gc) (Ne.symm zq) (λi _ hi hr e=>by have:=gM.leaf i hi hr;rw[<-e,gc]at this;simp at this)];exact gc
 have yj:H'[0]?=some (.vars (Ql a)):=by rw[zz 0 (by have:=Qf gM.out;omega) (by omega) (λi _ hi hr e=>by have:=gM.geL i hi hr;simp at this;omega)];exact gM.keep 0 (by simp)
 have ye:H'[1]?=some (.vars [.i 0,.nils,.nils,.nils]):=by rw[zz 1 (by have:=Qf gM.out;omega) (by omega) (λi _ hi hr e=>by have:=gM.geL i hi hr;simp at this;omega)];exact gM.keep 1 (by simp)
 have zx:=Qf y2;clear zz ih gM gc;refine Oc o y2 yc ?_;refine u09 o (zS zx) ?_;rw[yd,List.set_set];refine Wn o (zS zx) c (by rw[zH zq];exact y3) ?_;refine Wb λZ hZ=>?_;have zc:Z[c]?=some (.vars (Q3 a)):=by rw[hZ,zS (by simpa using Qf y3)];simp[AV.fz,Q3,Tj,f0x];rw[zZ (by simp)]
 have z1:Z[1]?=some (.vars [.i 0,.nils,.nils,.nils]):=by rw[hZ,zH (by omega),zH (by omega),zH (by omega)];exact ye
 clear hZ;simp[AV.fz];unfold Rc Q3;unfold Q3 at zc;repeat(refine s_ ?_;simp[zc,z1,Qg z1])
end
section
abbrev Stp:=Sy×(Int×Int)
def Eo(e:Stp):AV:= .agg [.i e.1.ty,.i e.1.num,.i e.2.1,.i e.2.2]
def y01(a b:Aut)(p q:Int):PC prog 76 [Rc a,Rc b,.i p,.i q] (λr=>r= .fn (.func 142) [] [.iptr (Q3 a),.iptr [.i p],.iptr (Q3 b),.iptr [.i q]]):=by refine pcB func76 results76 ntmps76 ?_;simp only[Qe];simp only[Rc,Q3];repeat(refine s_ ?_;simp)
def V4(b:Aut)(q:Int)(m:Mv)(j:Nat):List Stp:=((Wa b q).take j).filterMap λn=>(E4 m.on n.on).map λx=>(x,(m.dst,n.dst))
def Ot(a b:Aut)(s:Int×Int)(i:Nat):List Stp:=((Wa a s.1).take i).flatMap λm=>V4 b s.2 m (Wa b s.2).length
def Me(a b:Aut)(s:Int×Int):Ot a b s (Wa a s.1).length=Ww a b s:=by rw[j1c,Ot,yR];unfold V4;rw[yR]
def g0n(a b:Aut)(s:Int×Int):Ot a b s 0=[]:=by simp[Ot]
def d0t(b:Aut)(q:Int)(m:Mv):V4 b q m 0=[]:=by simp[V4]
def u0j(a b:Aut)(s:Int×Int){i:Nat}(h:i<(Wa a s.1).length):Ot a b s (i+1)=Ot a b s i++V4 b s.2 (Wa a s.1)[i] (Wa b s.2).length:=by unfold Ot;rw[zY h,wS];simp
def c04(b:Aut)(q:Int)(m:Mv){j:Nat}(h:j<(Wa b q).length):V4 b q m (j+1)=V4 b q m j++(match E4 m.on (Wa b q)[j].on with|some x=>[(x,(m.dst,(Wa b q)[j].dst))]|none=>[]):=by
 unfold V4;rw[zY h,uA]
 congr 1
 cases hx:E4 m.on (Wa b q)[j].on<;>simp[hx]
def f1v(b:Aut)(q:Int)(m:Mv)(j:Nat):∃r,V4 b q m (Wa b q).length=V4 b q m j++r:=by refine⟨((Wa b q).drop j).filterMap λn=>(E4 m.on n.on).map λx=>(x,(m.dst,n.dst)),?_⟩;unfold V4;rw[<-uA,xW,yR]
def f07(a b:Aut)(s:Int×Int)(i:Nat):∃r,Ww a b s=Ot a b s i++r:=by refine⟨((Wa a s.1).drop i).flatMap λm=>V4 b s.2 m (Wa b s.2).length,?_⟩;rw[<-Me];unfold Ot;rw[<-wS,xW,yR]
def X8{a:Aut}{s:Int}(h:inS a s):(Tj a)[s.toNat]?=some (Yk (Wa a s)):=by have:=P7 h;unfold Tj;rw[z_,List.getElem?_range this.1];simp[this.2]
def z0e{a:Aut}(ha:OkA a){s:Int}{m:Mv}(hm:m∈Wa a s):PWf a.types.toNat m.on/\∀t∈m.on,t.length<=256:=by have:=(Wz.1 hm).1;exact⟨ha.wfA.on m this,v0u ha this⟩
def Gz(a:Aut)(s:Int):(Wa a s).length<=a.mv.length:=xN _ _
attribute [local irreducible] Wa E4 V4 Ot Tj Ww
def Bx (a b:Aut) (ha:OkA a) (hb:OkA b) (ht:b.types=a.types) (p q:Int) (hp:inS a p) (hq:inS b q) (l:Nat) {z8:Nat} {sl':List (Nat×AV)} {ps:List Tmp} {asg body:Code} (y4:ps.length=1) (y5:(ps.all λp=>decide (p<z8))=true)
  (Inv:List Stp->List AObj->Prop) (Done:Code->List AObj->Prop) (H0:List AObj)
  (hI:∀k H,Inv k H->H[l]?=some (.lp true none z8 sl' ps asg body))
  (z7:∀k H L,Inv k H->Inv k (H++L))
  (zb:∀pre e post H,Ww a b (p,q)=pre++e::post->Inv pre H->H0.length<=H.length->AWP prog z8 H.length asg (Aw (AWP prog z8 H.length body (v02 l (λjm K2=>(jm=none/\Inv (pre++[e]) (K2.set l (.lp true none z8 sl' ps asg body))/\∀i cs,H0.length<=i->H[i]?=some (.vars cs)->(K2.set l (.lp true none z8 sl' ps asg body))[i]?=some (.vars cs))\/∃c,jm=some c/\Done c (K2.set l (.lp false (some c) z8 sl' ps asg body))))) (λ_ _=>False)) ⟨Rz sl' ps [Eo e],H.set l .dead⟩)
  (h0:Inv [] H0):FC prog 142 [.yld l,.iptr (Q3 a),.iptr [.i p],.iptr (Q3 b),.iptr [.i q]] H0 (λ_ H'=>Inv (Ww a b (p,q)) H'\/∃c,Done c H'):=by
 refine fcB func142 results142 ntmps142 ?_;simp only[Qe];have zk:=X8 hp;have zl:=X8 hq;have yv:=P7 hp;have yw:=P7 hq;have y6:=Gz a p;have y7:=Gz b q;have yx:=ha.mvs;have yy:=hb.mvs;have y8:=hp.1;have y9:=hq.1;have ya:(Tj a).length=a.fin.length:=by unfold Tj;simp
 have yb:(Tj b).length=b.fin.length:=by unfold Tj;simp
 have yc:=hp.2;have yd:=hq.2;simp only[Q3,Yk]at zk zl |-;have zn:∀hh,(Tj a)[p.toNat]'hh= .list ((Wa a p).map encMv):=λhh=>by rw[zP hh]at zk;exact Option.some.inj zk
 have zo:∀hh,(Tj b)[q.toNat]'hh= .list ((Wa b q).map encMv):=λhh=>by rw[zP hh]at zl;exact Option.some.inj zl
 repeat(refine s_ ?_;simp[zk,zn,y8,yc,ya])
 have ye:(b.types).toNat=a.types.toNat:=by rw[ht]
 refine Qi (Qc (sl':=[(0,.yld l),(1,.iptr [.i a.types,.list (a.fin.map .bool),.list (a.mv.map encMv),.list (Tj a)]),(2,.iptr [.i p]),(3,.iptr [.i b.types,.list (b.fin.map .bool),.list (b.mv.map encMv),.list (Tj b)]),(4,.iptr [.i q]),(16,.list ((Wa a p).map encMv)),(17,.i (Wa a p).length),(18,.i (0:Nat))]) ?_ (by simp));have zp:Ot a b (p,q) (Wa a p).length=Ww a b (p,q):=Me a b (p,q);have zg:=λi h=>u0j a b (p,q) (i:=i) h;have zc:=λm j h=>c04 b q m (j:=j) h;have zh:=λm j=>f1v b q m j;have zi:=λi=>f07 a b (p,q) i;have hz:Ot a b (p,q) 0=[]:=g0n a b (p,q);have yf:∀m,V4 b q m 0=[]:=λm=>d0t b q m;refine Qj (F:=λ(u:Nat×List AObj)=>⟨[(0,.yld l),(1,.iptr [.i a.types,.list (a.fin.map .bool),.list (a.mv.map encMv),.list (Tj a)]),(2,.iptr [.i p]),(3,.iptr [.i b.types,.list (b.fin.map .bool),.list (b.mv.map encMv),.list (Tj b)]),(4,.iptr [.i q]),(16,.list ((Wa a p).map encMv)),(17,.i (Wa a p).length),(18,.i u.1)],u.2⟩)
  (λu=>u.1<=(Wa a p).length/\Inv (Ot a b (p,q) u.1) u.2/\H0.length<=u.2.length) (λu=>(Wa a p).length - u.1) ?_ (0,H0) ⟨by simp,by rw[hz];exact h0,zW _⟩
 rintro⟨i,H⟩ ⟨hi,hv,zw⟩ ih;simp only at hi hv zw ih |-;repeat(refine s_ ?_;simp)
 refine Qa rfl (λyg=>?_) (λyh=>?_)
 ·have za:i<(Wa a p).length:=by simpa using yg
  have hw:=wz i (by omega);have zy:=zg i za;obtain⟨yi,yj⟩:=z0e ha (zT za);have yk:∃r,Ww a b (p,q)=(Ot a b (p,q) i++V4 b q (Wa a p)[i] (Wa b q).length)++r:=by obtain⟨r,hr⟩:=zi (i+1);exact⟨r,by rw[hr,zy]⟩
  have zd:((Wa a p).map encMv)[i]?=some (encMv (Wa a p)[i]):=by simp[za]
  have ze:∀hh,((Wa a p).map encMv)[i]'hh=encMv (Wa a p)[i]:=λhh=>by simp
  have zz:=λH'=>ih (i+1,H');simp only[zy]at zz;generalize (Wa a p)[i]=m at *
  have yl:=zc m;have ym:=zh m;have yn:=yf m;simp only[encMv]at zd ze;have zq:=z7 _ H [.vars [.i m.src,.i m.dst,.list (m.on.map encL)]] hv;repeat(refine s_ ?_;simp[zl,zo,y9,yd,yb,zd,ze,za])
  refine Wb λZ hZ=>?_;have zx:Z[H.length]?=some (.vars [.i m.src,.i m.dst,.list (m.on.map encL)]):=by rw[hZ,zO (by simp)];simp
  rw[<-hZ]at zq;clear hZ hv zd ze;generalize H.length=x at *;clear H;refine Qi (Qc (sl':=[(0,.yld l),(1,.iptr [.i a.types,.list (a.fin.map .bool),.list (a.mv.map encMv),.list (Tj a)]),(2,.iptr [.i p]),(3,.iptr [.i b.types,.list (b.fin.map .bool),.list (b.mv.map encMv),.list (Tj b)]),(4,.iptr [.i q]),(7,.vptr x 0),(16,.list ((Wa a p).map encMv)),(17,.i (Wa a p).length),(18,.i i),(26,.list ((Wa b q).map encMv)),(27,.i (Wa b q).length),(28,.i (0:Nat))]) ?_ (by simp))
  refine Qj (F:=λ(u:Nat×List AObj)=>⟨[(0,.yld l),(1,.iptr [.i a.types,.list (a.fin.map .bool),.list (a.mv.map encMv),.list (Tj a)]),(2,.iptr [.i p]),(3,.iptr [.i b.types,.list (b.fin.map .bool),.list (b.mv.map encMv),.list (Tj b)]),(4,.iptr [.i q]),(7,.vptr x 0),(16,.list ((Wa a p).map encMv)),(17,.i (Wa a p).length),(18,.i i),(26,.list ((Wa b q).map encMv)),(27,.i (Wa b q).length),(28,.i u.1)],u.2⟩)
   (λu=>u.1<=(Wa b q).length/\Inv (Ot a b (p,q) i++V4 b q m u.1) u.2/\u.2[x]?=some (.vars [.i m.src,.i m.dst,.list (m.on.map encL)])) (λu=>(Wa b q).length - u.1) ?_ (0,Z) ⟨by simp,by rw[yn,xO];exact zq,zx⟩
  clear zx zq;clear Z;rintro⟨j,G⟩ ⟨hj,gv,gx⟩ ih2;simp only at hj gv gx ih2 |-;repeat(refine s_ ?_;simp)
  refine Qa rfl (λzr=>?_) (λzt=>?_)
  ·have z1:j<(Wa b q).length:=by simpa using zr
   have y0:=wz j (by omega);have y1:=yl j z1;obtain⟨yo,yp⟩:=z0e hb (zT z1);obtain⟨r1,zm⟩:=ym (j+1);obtain⟨r2,yq⟩:=yk;have zd:((Wa b q).map encMv)[j]?=some (encMv (Wa b q)[j]):=by simp[z1]
   have ze:∀hh,((Wa b q).map encMv)[j]'hh=encMv (Wa b q)[j]:=λhh=>by simp
   have z6:=λH'=>ih2 (j+1,H');rw[y1]at zm;simp only[y1]at z6;generalize (Wa b q)[j]=n at *;simp only[encMv]at zd ze
   have zf:∀M,(G++M)[x]?=some (.vars [.i m.src,.i m.dst,.list (m.on.map encL)]):=λM=>Qb gx M;have zu:∀M hh,(G++M)[x]'hh= .vars [.i m.src,.i m.dst,.list (m.on.map encL)]:=λM hh=>(yI hh).2 (zf M);repeat(refine s_ ?_;simp[zd,ze,z1,zf,zu])
   refine pcL (A4 a.types.toNat m.on n.on yi (by rw[<-ye];exact yo) (λs hs=>by have:=yj s hs;omega) (λs hs=>by have:=yp s hs;omega) (by have:=ha.types;omega)) ?_;simp;cases hx:E4 m.on n.on with
   |none=>
    rw[hx]at zm z6;simp only[xO]at z6;simp[He,encSy];repeat(refine s_ ?_;simp[zf,zu])
    refine Wg rfl rfl ?_;simp;repeat(refine s_ ?_;simp)
    refine Qa rfl (λh=>by cases h) (λ_=>?_);repeat(refine s_ ?_;simp[y0])
    refine Qc (sl':=[(0,.yld l),(1,.iptr [.i a.types,.list (a.fin.map .bool),.list (a.mv.map encMv),.list (Tj a)]),(2,.iptr [.i p]),(3,.iptr [.i b.types,.list (b.fin.map .bool),.list (b.mv.map encMv),.list (Tj b)]),(4,.iptr [.i q]),(7,.vptr x 0),(16,.list ((Wa a p).map encMv)),(17,.i (Wa a p).length),(18,.i i),(26,.list ((Wa b q).map encMv)),(27,.i (Wa b q).length),(28,.i (j+1:Nat))]) ?_ (by simp);exact z6 _ ⟨by omega,z7 _ _ _ gv,zf _⟩ (by omega)
   |some y=>
    rw[hx]at zm z6;simp[He,encSy];repeat(refine s_ ?_;simp[zf,zu])
    have y2:=z7 _ G [.vars [.i n.src,.i n.dst,.list (n.on.map encL)],.vars [.i y.ty,.i y.num]] gv;have y3:=zf [.vars [.i n.src,.i n.dst,.list (n.on.map encL)],.vars [.i y.ty,.i y.num]];have yr:H0.length<=(G++[AObj.vars [.i n.src,.i n.dst,.list (n.on.map encL)],AObj.vars [.i y.ty,.i y.num]]).length:=by have:=Qf y3;omega
    have i1:=hI _ _ y2;have yt:=zb (Ot a b (p,q) i++V4 b q m j) (y,(m.dst,n.dst)) (r1++r2) _ (by rw[yq,zm];simp) y2 yr;generalize G++[AObj.vars [.i n.src,.i n.dst,.list (n.on.map encL)],AObj.vars [.i y.ty,.i y.num]]=Y at *;refine Yv rfl rfl (q:=l) rfl rfl i1 y4 y5 rfl (λjm K2=>(jm=none/\Inv (Ot a b (p,q) i++V4 b q m j++[(y,(m.dst,n.dst))]) (K2.set l (.lp true none z8 sl' ps asg body))/\∀i cs,H0.length<=i->Y[i]?=some (.vars cs)->(K2.set l (.lp true none z8 sl' ps asg body))[i]?=some (.vars cs))\/∃c,jm=some c/\Done c (K2.set l (.lp false (some c) z8 sl' ps asg body))) ?_ ?_
    ·exact yt
    rintro jm K2 (⟨rfl,hK,yu⟩|⟨c,rfl,hD⟩)
    ·simp;repeat(refine s_ ?_;simp)
     refine Qa rfl (λh=>by cases h) (λ_=>?_);repeat(refine s_ ?_;simp[y0])
     refine Qc (sl':=[(0,.yld l),(1,.iptr [.i a.types,.list (a.fin.map .bool),.list (a.mv.map encMv),.list (Tj a)]),(2,.iptr [.i p]),(3,.iptr [.i b.types,.list (b.fin.map .bool),.list (b.mv.map encMv),.list (Tj b)]),(4,.iptr [.i q]),(7,.vptr x 0),(16,.list ((Wa a p).map encMv)),(17,.i (Wa a p).length),(18,.i i),(26,.list ((Wa b q).map encMv)),(27,.i (Wa b q).length),(28,.i (j+1:Nat))]) ?_ (by simp);exact z6 _ ⟨by omega,by rw[<-xU];exact hK,yu x _ zw y3⟩ (by omega)
    simp;repeat(refine s_ ?_;simp)
    refine Qa rfl (λ_=>?_) (λh=>by cases h);repeat(refine s_ ?_;simp)
    exact .inr ⟨c,hD⟩
  have zj:j=(Wa b q).length:=by simp at zt;omega
  subst zj;repeat(refine s_ ?_;simp[hw])
  refine Qc (sl':=[(0,.yld l),(1,.iptr [.i a.types,.list (a.fin.map .bool),.list (a.mv.map encMv),.list (Tj a)]),(2,.iptr [.i p]),(3,.iptr [.i b.types,.list (b.fin.map .bool),.list (b.mv.map encMv),.list (Tj b)]),(4,.iptr [.i q]),(16,.list ((Wa a p).map encMv)),(17,.i (Wa a p).length),(18,.i (i+1:Nat))]) ?_ (by simp);exact zz G ⟨by omega,gv,by have:=Qf gx;omega⟩ (by omega)
 have zv:i=(Wa a p).length:=by simp at yh;omega
 subst zv;rw[zp]at hv;repeat(refine s_ ?_;simp)
 exact .inl hv
end
attribute [simp] d2o d2t
def A0(a b:Int):Int:=if a<b then -1 else if b<a then 1 else 0
def orE(x y:Int):Int:=if x≠0 then x else y
def y1f(a:Int):PC prog 200 [.i a] (λr=>r= .bool false):=by refine pcB func200 results200 ntmps200 ?_;simp only[Qe];repeat(refine s_ ?_;simp)
def Cn(a b:Int):PC prog 133 [.i a,.i b] (λr=>r= .i (A0 a b)):=by
 refine pcB func133 results133 ntmps133 ?_;simp only[Qe];repeat(refine s_ ?_;simp)
 refine pcL (y1f a) ?_;simp;repeat(refine s_ ?_;simp)
 refine pcL (y1f b) ?_;simp;repeat(refine s_ ?_;simp)
 refine Qv rfl ?_;repeat(refine s_ ?_;simp)
 refine Qv rfl ?_;repeat(refine s_ ?_;simp)
 refine Qa rfl (λh=>?_) (λh=>?_)
 ·repeat(refine s_ ?_;simp)
  rw[A0,if_pos (by simpa using h)]
 repeat(refine s_ ?_;simp)
 refine Qa rfl (λh1=>?_) (λh1=>?_)
 ·repeat(refine s_ ?_;simp)
  rw[A0,if_neg (by simpa using h),if_pos (by simpa using h1)]
 repeat(refine s_ ?_;simp)
 rw[A0,if_neg (by simpa using h),if_neg (by simpa using h1)]
def c1h(x y:Int):PC prog 132 [LI [x,y]] (λr=>r= .i (orE x y)):=by
 refine pcB func132 results132 ntmps132 ?_;simp only[Qe];have w1:IntKind.i64.wrap 1=1:=by decide
 have w2:IntKind.i64.wrap 2=2:=by decide
 repeat(refine s_ ?_;simp)
 refine Qu 2 (λj=>j=0\/x=0/\(j=1\/y=0)) (λj=>[(3,.i 0),(6,LI [x,y]),(7,.i (2:Nat)),(8,.i j)]) (λ_=>[]) rfl (by simp) (by simp) (by simp) (by simp) (.inl rfl) ?_;intro j hj hI ih;repeat(refine s_ ?_;simp)
 refine Qa rfl (λz8=>?_) (λza=>?_)
 ·have z1:j<2:=by simp at z8;omega
  have hw:=wz j (by omega);obtain rfl|rfl:j=0\/j=1:=by omega
  ·repeat(refine s_ ?_;simp)
   refine Qa rfl (λh=>?_) (λh=>?_)
   ·repeat(refine s_ ?_;simp)
    rw[orE,if_pos (by simpa using h)]
   have h0:x=0:=by simpa using h
   repeat(refine s_ ?_;simp[w1])
   refine Qs _ (ih z1 (.inr ⟨h0,.inl rfl⟩)) rfl (by simp) ?_ (by simp) (by simp);simp
  have hx:x=0:=by rcases hI with h|h;exact absurd h (by decide);exact h.1
  repeat(refine s_ ?_;simp)
  refine Qa rfl (λh=>?_) (λh=>?_)
  ·repeat(refine s_ ?_;simp)
   rw[orE,if_neg (by simpa using hx)]
  have h0:y=0:=by simpa using h
  repeat(refine s_ ?_;simp[w2])
  refine Qs _ (ih z1 (.inr ⟨hx,.inr h0⟩)) rfl (by simp) ?_ (by simp) (by simp);simp
 have z6:j=2:=by simp at za;omega
 subst z6;have z7:x=0/\y=0:=by
  rcases hI with h|⟨h1,h2⟩
  ·exact absurd h (by decide)
  exact⟨h1,h2.elim (λh=>absurd h (by decide)) id⟩
 repeat(refine s_ ?_;simp)
 rw[orE,z7.1,z7.2];rfl
def k2e(x y:Sy):Int:=orE (A0 x.ty y.ty) (A0 x.num y.num)
def z0o(x y:Stp):Int:=k2e x.1 y.1
def w0u(x y:Int×Int):Int:=orE (A0 x.1 y.1) (A0 x.2 y.2)
def v2s(x y:Int×Int):Bool:=decide (x.1<y.1) || (decide (x.1=y.1) && decide (x.2<y.2))
def c10(a b c d:Int):decide (orE (A0 a b) (A0 c d)<0)=(decide (a<b) || (decide (a=b) && decide (c<d))):=by
 rw[wB];simp only[decide_eq_true_eq,vB,yJ];unfold orE A0;by_cases h1:a<b
 ·simp[h1]
 by_cases h2:b<a
 ·rw[if_neg h1,if_pos h2];simp;omega
 rw[if_neg h1,if_neg h2];have h3:a=b:=by omega
 simp[h3];by_cases h4:c<d
 ·simp[h4]
 by_cases h5:d<c
 ·simp[h4,h5]
 simp[h4,h5]
def k07(x y:Sy):PC prog 197 [encSy x,encSy y] (λr=>r= .i (k2e x y)):=by
 refine pcB func197 results197 ntmps197 ?_;simp only[Qe];simp only[encSy];repeat(refine s_ ?_;simp)
 refine Qn tOk mixed [] (.val 0 (.val 1 (.val 2 (.val 3 (.val 5 (.val 6 (.val 7 (.val 8 (.one 4 (.one 9 (.one 10 (.one 11 (.val 12 (.done)))))))))))))) rfl (by kernel_rfl) ?_;simp;refine pcL (Cn x.ty y.ty) ?_;simp;refine pcL (Cn x.num y.num) ?_;simp;refine Oz rfl rfl (by first|(simp;done)|(simp;rfl)) (c1h (A0 x.ty y.ty) (A0 x.num y.num)) rfl ?_;rintro _ rfl;refine⟨by first|simp|rfl|trivial,?_⟩;simp;repeat(refine s_ ?_;simp)
 rfl
def g1o(x y:Stp):PC prog 196 [Eo x,Eo y] (λr=>r= .i (z0o x y)):=by
 refine pcB func196 results196 ntmps196 ?_;simp only[Qe];simp only[Eo];repeat(refine s_ ?_;simp)
 refine pcL (k07 x.1 y.1) ?_;simp;repeat(refine s_ ?_;simp)
 rfl
def f1g(x y:Int×Int):PC prog 131 [pqr x,pqr y] (λr=>r= .i (w0u x y)):=by
 refine pcB func131 results131 ntmps131 ?_;simp only[Qe];simp only[pqr];repeat(refine s_ ?_;simp)
 refine Qn tOk mixed [] (.val 0 (.val 1 (.val 2 (.val 3 (.val 5 (.val 6 (.val 7 (.val 8 (.one 4 (.one 9 (.one 10 (.one 11 (.val 12 (.done)))))))))))))) rfl (by kernel_rfl) ?_;simp;refine pcL (Cn x.1 y.1) ?_;simp;refine pcL (Cn x.2 y.2) ?_;simp;refine Oz rfl rfl (by first|(simp;done)|(simp;rfl)) (c1h (A0 x.1 y.1) (A0 x.2 y.2)) rfl ?_;rintro _ rfl;refine⟨by first|simp|rfl|trivial,?_⟩;simp;repeat(refine s_ ?_;simp)
 rfl
open Go.Shelf Go.Lib Go.Sort in
def x0l(x y:Stp):ltOf z0o x y=K0 x.1 y.1:=c10 ..
open Go.Shelf Go.Lib Go.Sort in
def y0y(x y:Int×Int):ltOf w0u x y=v2s x y:=c10 ..
def c1m{α:Type}(f g:α->Int):Go.Sort.SWO (λx y=>decide (f x<f y) || (decide (f x=f y) && decide (g x<g y))) where
 irrefl x:=by simp
 trans x y z h1 h2:=by simp only[vB,yJ,decide_eq_true_eq]at *;omega
 ntrans x y z h1 h2:=by rw[<-uI]at *;simp only[vB,yJ,decide_eq_true_eq]at *;omega
open Go.Shelf Go.Lib Go.Sort in
def d02:SWO (ltOf z0o):=by
 have h:ltOf z0o=λx y:Stp=>decide (x.1.ty<y.1.ty) || (decide (x.1.ty=y.1.ty) && decide (x.1.num<y.1.num)):=by funext x y;exact x0l x y
 rw[h];exact c1m (λx:Stp=>x.1.ty) (λx:Stp=>x.1.num)
open Go.Shelf Go.Lib Go.Sort in
def c0t:SWO (ltOf w0u):=by
 have h:ltOf w0u=λx y:Int×Int=>decide (x.1<y.1) || (decide (x.1=y.1) && decide (x.2<y.2)):=by funext x y;exact y0y x y
 rw[h];exact c1m (λx:Int×Int=>x.1) (λx:Int×Int=>x.2)
end Go.Abs
namespace Go.Proofs
open Go.Shelf
def Tryz.sortLd_ren:Go.Shelf.Ren:=⟨λ|6=>195|15=>199|14=>235|28=>244|29=>245|20=>283|21=>284|22=>285|23=>286|24=>287|25=>288|26=>289|27=>290|46=>313|47=>292|48=>293|49=>314|50=>315|57=>324|n=>n,λ|22=>245|24=>184|25=>252|3=>3|39=>189|0=>0|53=>255|55=>258|4=>4|46=>291|45=>290|50=>112|5=>5|9=>9|66=>327|70=>331|76=>349|77=>350|n=>n,λ|n=>n⟩
def Tryz.sortLd:Go.Proofs.SlLaysF0.n6 prog Tryz.sortLd_ren:={
 mixed:=by kernel_rfl
 f6:=⟨Tryz.f195.name,by decide,func195.trans (congrArg some (by kernel_rfl))⟩
 f14:=⟨Tryz.f235.name,by decide,func235.trans (congrArg some (by kernel_rfl))⟩
 f15:=func199.trans (congrArg some (by kernel_rfl))
 f20:=⟨Tryz.f283.name,by decide,func283.trans (congrArg some (by kernel_rfl))⟩
 f21:=⟨Tryz.f284.name,by decide,func284.trans (congrArg some (by kernel_rfl))⟩
 f22:=⟨Tryz.f285.name,by decide,func285.trans (congrArg some (by kernel_rfl))⟩
 f23:=⟨Tryz.f286.name,by decide,func286.trans (congrArg some (by kernel_rfl))⟩
 f24:=⟨Tryz.f287.name,by decide,func287.trans (congrArg some (by kernel_rfl))⟩
 f25:=⟨Tryz.f288.name,by decide,func288.trans (congrArg some (by kernel_rfl))⟩
 f26:=⟨Tryz.f289.name,by decide,func289.trans (congrArg some (by kernel_rfl))⟩
 f27:=⟨Tryz.f290.name,by decide,func290.trans (congrArg some (by kernel_rfl))⟩
 f28:=func244.trans (congrArg some (by kernel_rfl))
 f29:=func245.trans (congrArg some (by kernel_rfl))
 f46:=⟨Tryz.f313.name,by decide,func313.trans (congrArg some (by kernel_rfl))⟩
 f47:=func292.trans (congrArg some (by kernel_rfl))
 f48:=func293.trans (congrArg some (by kernel_rfl))
 f49:=⟨Tryz.f314.name,by decide,func314.trans (congrArg some (by kernel_rfl))⟩
 f50:=⟨Tryz.f315.name,by decide,func315.trans (congrArg some (by kernel_rfl))⟩
 f57:=⟨Tryz.f324.name,by decide,func324.trans (congrArg some (by kernel_rfl))⟩
 t0:=underlying0
 a0:=isAgg0
 z0:=sizeOf0
 v0:=zeroValue0
 t3:=underlying3
 a3:=isAgg3
 z3:=sizeOf3
 v3:=zeroValue3
 t4:=underlying4
 a4:=isAgg4
 z4:=sizeOf4
 v4:=zeroValue4
 t5:=underlying5
 a5:=isAgg5
 z5:=sizeOf5
 v5:=zeroValue5
 t9:=underlying9
 a9:=isAgg9
 z9:=sizeOf9
 v9:=zeroValue9
 t22:=underlying245
 a22:=isAgg245
 z22:=sizeOf245
 v22:=zeroValue245
 t25:=underlying252
 a25:=isAgg252
 z25:=sizeOf252
 v25:=zeroValue252
 t39:=underlying189
 a39:=isAgg189
 z39:=sizeOf189
 v39:=zeroValue189
 t45:=underlying290
 a45:=isAgg290
 z45:=sizeOf290
 v45:=zeroValue290
 t46:=underlying291
 a46:=isAgg291
 z46:=sizeOf291
 v46:=zeroValue291
 t50:=underlying112
 a50:=isAgg112
 z50:=sizeOf112
 v50:=zeroValue112
 t53:=underlying255
 a53:=isAgg255
 z53:=sizeOf255
 v53:=zeroValue255
 t55:=underlying258
 a55:=isAgg258
 z55:=sizeOf258
 v55:=zeroValue258
 t66:=underlying327
 a66:=isAgg327
 z66:=sizeOf327
 v66:=zeroValue327
 t70:=underlying331
 a70:=isAgg331
 z70:=sizeOf331
 v70:=zeroValue331
 t76:=underlying349
 a76:=isAgg349
 z76:=sizeOf349
 v76:=zeroValue349
 t77:=underlying350
 a77:=isAgg350
 z77:=sizeOf350
 v77:=zeroValue350 }
end Go.Proofs
namespace Go.Abs
open Go Go.Proofs Go.RowKit
section
open Go.Shelf Go.Lib Go.Sort
def Ps{w:World}{I:Nat->Prop}{v:Value}{k:IntKind}{n:Int}(h:PVR w I v (.int k n)):v= .int k n:=by cases h;rfl
def Dd(x:Stp):List Value:=[.int .i64 x.1.ty,.int .i64 x.1.num,.int .i64 x.2.1,.int .i64 x.2.2]
def d2f(x y:Stp):ltOf z0o x y=K0 x.1 y.1:=x0l x y
def k2q{w:World}{I:Nat->Prop}{l:List (Stp)}{F:Array Value}(hR:RowW w I 4 (l.map Eo) F):flatK Dd 4 l.toArray=F:=by
 have z1:F.size=l.length * 4:=by have:=hR.size;simpa using this
 refine ext_get! (by simp[z1]) λt ht=>?_;have z6:t<l.length * 4:=by simpa using ht
 rw[get_flatK _ _ _ _ (by simpa using z6)];have hi:t / 4<l.length:=by omega
 rw[getElem!_pos l.toArray _ (by simpa using hi)];have hx:(l.map Eo)[t / 4]?=some (Eo l[t / 4]):=by simp[hi]
 have c0:=Ps (hR.cell _ _ hx 0 _ rfl);have c1:=Ps (hR.cell _ _ hx 1 _ rfl);have c2:=Ps (hR.cell _ _ hx 2 _ rfl);have c3:=Ps (hR.cell _ _ hx 3 _ rfl);have e0:l.toArray[t / 4]'(by simpa using hi)=l[t / 4]:=by simp
 rw[e0];have hm:t % 4=0\/t % 4=1\/t % 4=2\/t % 4=3:=by omega
 rcases hm with h|h|h|h<;>rw[h]
 ·have e1:t / 4 * 4+0=t:=by omega
  rw[e1]at c0;rw[c0];rfl
 ·have e1:t / 4 * 4+1=t:=by omega
  rw[e1]at c1;rw[c1];rfl
 ·have e1:t / 4 * 4+2=t:=by omega
  rw[e1]at c2;rw[c2];rfl
 have e1:t / 4 * 4+3=t:=by omega
 rw[e1]at c3;rw[c3];rfl
def c0m(H:List AObj)(p:Nat)(l:List (Stp))(hp:H[p]?=some (.arr 184 4 (l.map Eo)))(hl:l.length<=100000000):
  FC prog 195 [.sl p 4 0 l.length,.fn (.func 196) [] []] H
   (λr H'=>r= .tup []/\∃l':List (Stp),l'.Perm l/\l'.Pairwise (λx y=>K0 y.1 x.1=false)/\H'=H.set p (.arr 184 4 (l'.map Eo))):=by
 refine(w0b (xs:=l.map Eo) (R9 func195 rfl rfl) (by simp) hp [.func (.func 196) #[] #[]] (λw I m vs a b=>Hv _ w I m _ vs a b) (λz8=>∃l':List (Stp),l'.Perm l/\l'.Pairwise (λx y=>K0 y.1 x.1=false)/\z8=l'.map Eo) ?_ ?_).mono ?_
 ·intro w I b cap F hE hI zc hR hH hb hc;by_cases z6:l=[]
  ·subst z6;refine Calls.mono (AnyF.slices_SortFunc_none Tryz.sortLd (some ⟨b,0,none⟩) cap _ w) ?_;rintro e w' ⟨rfl,rfl⟩;refine⟨rfl,[],F,0,#[],⟨[],.refl _,.nil,rfl⟩,rfl,hR,?_⟩;rw[grow_empty];exact(putRow_self id w' b 0 F hH).symm
  have zd:0<l.length:=uS.2 z6;have eg:∀args w,(callFunc 196 args).run prog w= .ok (.enter 196 args) w:=enters_of func196 (by kernel_rfl) rfl;have ze:=k2q hR;have zf:HoldsK Dd 4 w b 0 l.toArray:=by unfold HoldsK;rw[ze];exact hH
  have z7:CmpLays prog 196 #[] Dd 4 z0o b 0 l.toArray.size w:=λq os dk hs x y=>by
   have hW:∀c,I c->(sortWorldK Dd 4 w b 0 q dk os).heap[c]? =w.heap[c]? :=λc za=>by have zg:=hI c za;have zh:b≠c:=λe=>zc (e▸za);simp only[sortWorldK,grow,putRowK,putRow,mapBlock,Sort.ahead];rw[yY (by simpa using zg),w_,if_neg zh]
   have zb:∀z:Stp,PVR w I (.agg (Dd z).toArray) (Eo z):=λz=>by
    refine .agg _ _ (by simp[Dd]) λi v x' hv z1=>?_
    match i,hv,z1 with
    |0,hv,z1=>simp[Dd]at hv z1;subst hv z1;exact .int _ _
    |1,hv,z1=>simp[Dd]at hv z1;subst hv z1;exact .int _ _
    |2,hv,z1=>simp[Dd]at hv z1;subst hv z1;exact .int _ _
    |3,hv,z1=>simp[Dd]at hv z1;subst hv z1;exact .int _ _
    |k+4,hv,z1=>simp[Dd]at hv
   refine(g1o x y).laid hE hI hW (by simp) λi v x' hv z1=>?_
   match i,hv,z1 with
   |0,hv,z1=>simp at hv z1;subst hv z1;exact zb x
   |1,hv,z1=>simp at hv z1;subst hv z1;exact zb y
  have:=AnyQ.slices_SortFunc Tryz.sortLd 4 isAgg184 sizeOf184 Dd (λ_=>rfl) (λx v hv=>by simp[Dd]at hv;rcases hv with rfl|rfl|rfl|rfl<;>rfl) z0o d02 196 #[] b 0 cap l.toArray w eg z7 zf hb (by simp;omega);rw[show(l.toArray).size=l.length by simp]at this;refine Calls.mono this ?_;rintro e w' ⟨rfl,d',n,os,h1,h2,rfl⟩;obtain⟨s1,_,s3⟩:=h1;have hs:d'.toList.length=l.length:=by simpa using s1
  refine⟨rfl,d'.toList.map Eo,flatK Dd 4 d',n,os,⟨d'.toList,?_,?_,rfl⟩,by simp[hs],⟨by simp,λx hx=>?_,λi x hx j y hy=>?_⟩,rfl⟩
  ·rw[show d'.extract 0 l.length=d' by simp[<-hs],show l.toArray.extract 0 l.length=l.toArray by simp]at s3;simpa using s3
  ·refine yU.2 λi j hi hj zi=>?_;have:=h2 i j (xP _) zi (by omega);rw[d2f,getElem!_pos d' i (by simpa using hi),getElem!_pos d' j (by simpa using hj)]at this;simpa using this
  ·obtain⟨z,_,rfl⟩:=zU.1 hx;rfl
  rw[z_]at hx;obtain⟨z,hz,rfl⟩:=zX.1 hx;obtain⟨hi,rfl⟩:=zE.1 hz;have hj:j<4:=(zE.1 hy).1;have zj:i<d'.size:=by simpa using hi
  rw[get_flatK _ _ _ _ (by omega)];rw[show(i * 4+j) / 4=i by omega,show(i * 4+j) % 4=j by omega];rw[getElem!_pos d' i zj]
  match j,hj,hy with
  |0,_,hy=>simp[Eo,AV.cells]at hy;subst hy;exact .int _ _
  |1,_,hy=>simp[Eo,AV.cells]at hy;subst hy;exact .int _ _
  |2,_,hy=>simp[Eo,AV.cells]at hy;subst hy;exact .int _ _
  |3,_,hy=>simp[Eo,AV.cells]at hy;subst hy;exact .int _ _
 ·rintro h;have z6:l=[]:=by
   cases l with
   |nil=>rfl
   |cons x r=>simp at h
  subst z6;exact⟨⟨[],.refl _,.nil,rfl⟩,λw=>AnyF.slices_SortFunc_none Tryz.sortLd none 0 _ w⟩
 rintro r H' ⟨rfl,z8,⟨l',h1,h2,rfl⟩,rfl⟩;exact⟨rfl,l',h1,h2,rfl⟩
end
section
open Go.Maps
def x0a:(prog).underlying 66=some (.array 2 3):=by kernel_rfl
def x2a:(prog).underlying 3=some (.int .i64):=by kernel_rfl
def y08:(prog).cellsOf 66=2:=by kernel_rfl
def q1r:(prog).cellsOf 3=1:=by kernel_rfl
def z2d:(prog).keyType 66=true:=by kernel_rfl
def y1m:laidOutB prog=true:=by kernel_rfl
def y20:(prog).keyTypeAt 3 66=true:=by kernel_rfl
def c18:66<(prog).types.size:=of_decide_eq_true (by kernel_rfl)
def v0j:Keyed prog 66:=Keyed.of_law (deep_law_laid y1m (m:=3) (by decide) c18 y20 (by rw[x0a]))
def kyP(s:Int×Int):AV:= .agg [.i s.1,.i s.2]
def okK(s:Int×Int):Prop:=(0<=s.1/\s.1<=1000000)/\(0<=s.2/\s.2<=1000000)
def f0l{s t:Int×Int}(h:kyP s=kyP t):s=t:=by unfold kyP at h;simp at h;exact Prod.ext h.1 h.2
def keyLits_int(d:Nat){z:Int}(h:0<=z/\z<=1000000):(prog).keyLits (d+1) 3 [.int .i64 z]=some [.int .i64 z]:=by unfold Program.keyLits;rw[x2a];simp[c1t h]
def k0x(d:Nat){s:Int×Int}(h:okK s):(prog).keyLits (d+2) 66 [.int .i64 s.1,.int .i64 s.2]=some [.int .i64 s.1,.int .i64 s.2]:=by unfold Program.keyLits;rw[x0a];simp only[y08,q1r,xI,sd,if_true];have h1:=keyLits_int d h.1;have h2:=keyLits_int d h.2;simp[vz,h1,h2]
def types_size:∃d,(prog).types.size+1=d+2:=⟨(prog).types.size - 1,by have:=c18;omega⟩
def Xd{s:Int×Int}(h:okK s):isKey prog 66 (kyP s):=by
 refine⟨.agg #[.int .i64 s.1,.int .i64 s.2],.string (keyBytes [.int .i64 s.1,.int .i64 s.2]),rfl,?_⟩;obtain⟨d,hd⟩:=types_size;unfold keyOf;rw[x0a];simp only;have hf:Value.formed prog 66 (.agg #[.int .i64 s.1,.int .i64 s.2])=true:=by unfold Value.formed;rw[x0a,y08];rfl
 rw[z2d,hf,hd];have:(Value.agg #[.int .i64 s.1,.int .i64 s.2]).cells.toList=[.int .i64 s.1,.int .i64 s.2]:=rfl;rw[this,k0x d h];rfl
abbrev Gf:=List ((Int×Int)×Nat)
def kvN(near:Gf):List (AV×AV):=near.map λe=>(kyP e.1,.i e.2)
def mpN(near:Gf):AObj:= .mp (kvN near)
structure NK (near:Gf):Prop where
 nd:(near.map (·.1)).Nodup
 ok:∀e∈near,okK e.1
def y29{near:Gf}(h:NK near){j:Nat}{e:(Int×Int)×Nat}(he:near[j]?=some e):lkN near e.1=some e.2:=by
 unfold lkN;cases hf:near.find? (λe'=>decide (e'.1=e.1))with
 |none=>rw[List.find?_eq_none]at hf;have:=hf e (zL he);simp at this
 |some e'=>
  have h1:e'.1=e.1:=by simpa using List.find?_some hf
  have h2:=List.mem_of_find?_eq_some hf;obtain⟨i,hi,rfl⟩:=List.getElem_of_mem h2;obtain⟨hj,rfl⟩:=zE.1 he;have h3:i=j:=by have:=(List.getElem_inj (h₀:=by simpa using hi) (h₁:=by simpa using hj) h.nd).1 (by simpa using h1);exact this
  subst h3;rfl
def q19{near:Gf}(h:NK near):∀p∈kvN near,isKey prog 66 p.1:=λp hp=>by obtain⟨e,he,rfl⟩:=zU.1 hp;exact Xd (h.ok e he)
section
variable {nt k:Nat} {S:AS} {ops:Array Oper} {o:Oper} {R:AS->Prop}
def Al {wr:Bool} (hw:Qt ops S o=some true) (hd:Wm nt o=true) {x ix:Operand} (ho:o.op= .lookup 109 x ix true) {id:Nat} (hx:rho S.sl x=some (.mref id)) {s:Int×Int} (z1:rho S.sl ix=some (.agg [.i s.1,.i s.2])) {near:Gf} (z6:S.hp[id]?=some (mpN near)) (hn:NK near) (hs:okK s)
  (hR:R (S.putD o.dst (.tup [.i ((lkN near s).getD 0:Nat),.bool (lkN near s).isSome]))):We prog nt k wr ops o S R:=by
 refine Up tOk hw hd ho f2s rfl T3 v0j hx z1 z6 (Xd hs) (q19 hn) (z:= .i 0) rfl (λj p hp he=>?_) (λz7=>?_)
 ·unfold kvN at hp;rw[z_]at hp;obtain⟨e,z8,rfl⟩:=zX.1 hp;have za:e.1=s:=f0l he;rw[<-za,y29 hn z8]at hR;exact hR
 have:lkN near s=none:=by rw[Xk];intro hm;obtain⟨e,he,rfl⟩:=zU.1 hm;exact z7 _ (zU.2 ⟨e,he,rfl⟩) rfl
 rw[this]at hR;exact hR
def u00 (hw:Qt ops S o=some true) (hd:Wm nt o=true) {x ix y:Operand} (ho:o.op= .mapUpdate 109 x ix y) {id:Nat} (hx:rho S.sl x=some (.mref id)) {s:Int×Int} (z1:rho S.sl ix=some (.agg [.i s.1,.i s.2])) {d:Nat} (hy:rho S.sl y=some (.i d)) {near:Gf} (z6:S.hp[id]?=some (mpN near)) (hn:NK near) (hs:okK s)
  (z7:s∉near.map (·.1)) (hR:R (({ S with hp:=S.hp.set id (mpN (near++[(s,d)])) }:AS).putD o.dst (.tup []))):We prog nt k true ops o S R:=by
 refine Es tOk hw hd ho f2s rfl v0j hx z1 hy (by simp[AV.pure]) z6 (Xd hs) (q19 hn) (λj p hp he=>?_) (λzb=>?_)
 ·unfold kvN at hp;rw[z_]at hp;obtain⟨e,z8,rfl⟩:=zX.1 hp;have za:e.1=s:=f0l he;exact absurd (zU.2 ⟨e,zL z8,za⟩) z7
 have:kvN near++[(kyP s,.i d)]=kvN (near++[(s,d)]):=by simp[kvN]
 unfold mpN at hR;rw[<-this]at hR;exact hR
end
end
section
open Go.Maps
def x19{a b:Aut}{i j:Nat}(hi:i<a.fin.length)(hj:j<b.fin.length):Yo a b ((i:Int),(j:Int))=(a.fin[i] != b.fin[j]):=by unfold Yo;simp[List.getD,hi,hj]
def v0t{a b:Aut}(ha:OkA a)(hb:OkA b){s:Int×Int}{e:Sy×(Int×Int)}(he:e∈Ww a b s):inS a e.2.1/\inS b e.2.2:=by obtain⟨m,hm,n,hn,_,rfl⟩:=Ib.1 he;have h1:=(ha.mv m (Wz.1 hm).1).dst;have h2:=(hb.mv n (Wz.1 hn).1).dst;exact⟨⟨h1.1,h1.2⟩,⟨h2.1,h2.2⟩⟩
def Bm{a b:Aut}(ha:OkA a)(hb:OkA b){s:Int×Int}(h:inS a s.1/\inS b s.2):okK s:=by have h1:=ha.fin;have h2:=hb.fin;obtain⟨⟨_,_⟩,⟨_,_⟩⟩:=h;unfold okK;omega
attribute [local irreducible] Wa E4 Tj Ww Yo lkN
def u1g(a:Aut)(ha:OkA a)(H:List AObj)(A:Nat)(hA:H[A]?=some (.vars (Q3 a)))(p q:Int)(hp:inS a p)(hq:inS a q):
  FC prog 227 [.i p,.i q,.vptr A 0] H (λr H'=>r= .bool (Yo a a (p,q))/\H'=H):=by
 refine fcB func227 results227 ntmps227 ?_;simp only[Qe];obtain⟨i,rfl⟩:∃i:Nat,p=i:=⟨p.toNat,(P7 hp).2.symm⟩
 obtain⟨j,rfl⟩:∃j:Nat,q=j:=⟨q.toNat,(P7 hq).2.symm⟩
 have hi:i<a.fin.length:=by have:=hp.2;omega
 have hj:j<a.fin.length:=by have:=hq.2;omega
 rw[x19 hi hj];simp only[Q3]at hA;repeat(refine s_ ?_;simp)
 refine Qn tOk mixed [] (.val 0 (.val 1 (.val 2 (.val 3 (.val 4 (.val 5 (.val 6 (.val 7 (.val 8 (.val 9 (.val 10 (.val 11 (.val 12 (.val 13 (.done))))))))))))))) rfl (by kernel_rfl) ?_;simp[hA,hi,hj];repeat(refine s_ ?_;simp)
 generalize a.fin[i]=x;generalize a.fin[j]=y;cases x<;>cases y<;>rfl
def V5(near:Gf)(d:Int)(es:List (Sy×(Int×Int))):Bool:=es.any λe=>(lkN near e.2).isSome && decide (((lkN near e.2).getD 0:Nat)=d)
def x1z(near:Gf)(d:Int)(pre:List (Sy×(Int×Int)))(e:Sy×(Int×Int)):V5 near d (pre++[e])=(V5 near d pre || ((lkN near e.2).isSome && decide (((lkN near e.2).getD 0:Nat)=d))):=by simp[V5]
def c0y{near:Gf}{d:Int}{pre post:List (Sy×(Int×Int))}{e:Sy×(Int×Int)}(h:((lkN near e.2).isSome && decide (((lkN near e.2).getD 0:Nat)=d))=true):V5 near d (pre++e::post)=true:=by unfold V5;rw[List.any_append,List.any_cons,h];simp
def f1r(near:Gf)(d:Int):V5 near d []=false:=rfl
attribute [local irreducible] V5
def j16(a:Aut)(ha:OkA a)(H:List AObj)(A N M D:Nat)(near:Gf)(d:Nat)(hA:H[A]?=some (.vars (Q3 a)))(hN:H[N]?=some (.vars [.mref M]))(hM:H[M]?=some (mpN near))(hD:H[D]?=some (.vars [.i d]))(hd:1<=d/\d<=1000000)(zb:NK near)(p q:Int)(hp:inS a p)(hq:inS a q):
  FC prog 228 [.i p,.i q,.vptr A 0,.vptr N 0,.vptr D 0] H (λr H'=>r= .bool (V5 near ((d:Int) - 1) (Ww a a (p,q)))/\∀i,i<H.length->H'[i]? =H[i]?):=by
 refine fcB func228 results228 ntmps228 ?_;simp only[Qe];have za:=hA;simp only[Q3]at za;have zl:=Qf hA;have zc:=Qf hN;have zd:=Qf hM;have ze:=Qf hD;have zf:∀L,(H++L)[A]?=some (.vars [.i a.types,.list (a.fin.map .bool),.list (a.mv.map encMv),.list (Tj a)]):=λL=>Qb za L;repeat(refine s_ ?_;simp[zf])
 refine pcL (y01 a a p q) ?_;simp;repeat(refine s_ ?_;simp)
 refine Ej rfl (Rf:=λ_ H'=>(V5 near ((d:Int) - 1) (Ww a a (p,q))=false/\(∃sl' ps' a' b',H'[H.length+1]?=some (.lp true none 34 sl' ps' a' b'))/\H'[H.length]?=some (.vars [.bool false])/\∀i,i<H.length->H'[i]? =H[i]?)\/
  (V5 near ((d:Int) - 1) (Ww a a (p,q))=true/\(∃sl' ps' a' b',H'[H.length+1]?=some (.lp false (some .ret) 34 sl' ps' a' b'))/\H'[H.length]?=some (.vars [.bool true])/\∀i,i<H.length->H'[i]? =H[i]?)) ?_ ?_
 ·simp;refine F3 λH1 z1=>?_;have f0:H1[H.length]?=some (.vars [.bool false]):=by rw[z1,zO (by omega)];simp
  have fk:∀i,i<H.length->H1[i]? =H[i]? :=λi hi=>by rw[z1,zI hi]
  have fl:=congrArg (λh:List AObj=>h[H.length+1]?) z1;have zm:H1.length=H.length+2:=by rw[z1];simp
  simp at fl;clear z1;refine FC.mono (Bx a a ha ha rfl p q hp hq (H.length+1) (by rfl) (by rfl)
   (λpre H'=>V5 near ((d:Int) - 1) pre=false/\H'[H.length+1]? =H1[H.length+1]? /\H'[H.length]?=some (.vars [.bool false])/\∀i,i<H.length->H'[i]? =H[i]?)
   (λc H'=>c= .ret/\V5 near ((d:Int) - 1) (Ww a a (p,q))=true/\(∃sl' ps' a' b',H'[H.length+1]?=some (.lp false (some .ret) 34 sl' ps' a' b'))/\H'[H.length]?=some (.vars [.bool true])/\∀i,i<H.length->H'[i]? =H[i]?) H1
   (λk H' ⟨_,h2,_,_⟩=>h2.trans fl) ?_ ?_ ⟨f1r _ _,rfl,f0,fk⟩) ?_
  ·rintro k H' L ⟨h1,h2,h3,h4⟩;exact⟨h1,by rw[<-h2,zI (by rw[fl]at h2;exact Qf h2)],Qb h3 _,λi hi=>by rw[zI (by have:=Qf h3;omega)];exact h4 i hi⟩
  ·rintro pre e post H' hst ⟨h1,h2,h3,h4⟩ hlen;simp[Rz];have zg:=v0t ha ha (show e∈Ww a a (p,q) by rw[hst];simp);have zh:=Bm ha ha zg;have zn:=Qf (h2.trans fl);have z6:=x1z near ((d:Int) - 1) pre e;have z7:=λh=>c0y (near:=near) (d:=(d:Int) - 1) (pre:=pre) (post:=post) (e:=e) h;rw[<-hst]at z7;rw[h1,Bool.false_or]at z6;have zz:=Qg (h2.trans fl) .dead;have z0:(H'.set (H.length+1) .dead)[H.length]?=some (.vars [.bool false]):=Qd (by omega) h3 _;have zk:∀i,i<H.length->(H'.set (H.length+1) .dead)[i]? =H[i]? :=λi hi=>by rw[zH (by omega)];exact h4 i hi
   have zv:∀i cs,H1.length<=i->H'[i]?=some (.vars cs)->(H'.set (H.length+1) .dead)[i]?=some (.vars cs):=λi cs hi hc=>by rw[zH (by omega)];exact hc
   have zi:(H'.set (H.length+1) .dead).length=H'.length:=by simp
   rw[<-zi];generalize H'.set (H.length+1) .dead=Z at *
   have zN:=(zk N zc).trans hN;have zM:=(zk M zd).trans hM;have zD:=(zk D ze).trans hD;have zNA:∀L,(Z++L)[N]?=some (.vars [.mref M]):=λL=>Qb zN L;have zMA:∀L,(Z++L)[M]?=some (mpN near):=λL=>Qb zM L;have zDA:∀L,(Z++L)[D]?=some (.vars [.i d]):=λL=>Qb zD L;have z0A:∀L,(Z++L)[H.length]?=some (.vars [.bool false]):=λL=>Qb z0 L;have z0H:∀L hh,(Z++L)[H.length]'hh= .vars [.bool false]:=λL hh=>(yI hh).2 (z0A L);have zj:IntKind.i64.wrap ((d:Int) - 1)=d - 1:=wrap_i64 _ (by omega) (by omega);simp only[Eo];repeat(refine s_ ?_;simp[zNA,zDA])
   refine Al rfl rfl rfl rfl (s:=e.2) rfl (near:=near) (zMA _) zb zh ?_;simp;generalize lkN near e.2=lk at *
   cases lk with
   |none=>
    simp at z6;repeat(refine s_ ?_;simp[zDA])
    refine Qa rfl (λh=>by simp at h) (λ_=>?_);repeat(refine s_ ?_;simp)
    refine⟨Qb zz _,.inl ⟨rfl,⟨z6,?_,?_,λi hi=>?_⟩,λi cs hi hc=>?_⟩⟩
    ·rw[fl];exact Qg (Qb zz _) _
    ·exact z0A _
    ·rw[zH (by omega),zI (by omega)];exact zk i hi
    exact Qd (j:=H.length+1) (by omega) (Qb (zv i cs hi hc) _) _
   |some kd=>
    simp at z6 z7;repeat(refine s_ ?_;simp[zDA,zj])
    refine Qa rfl (λh=>?_) (λh=>?_)
    ·have z8:(kd:Int)=d - 1:=by simpa using h
     repeat(refine s_ ?_;simp[z0A,z0H])
     refine⟨Qd (j:=H.length) (by omega) (Qb zz _) _,.inr ⟨.ret,rfl,rfl,z7 z8,?_,?_,λi hi=>?_⟩⟩
     ·exact⟨_,_,_,_,Qg (Qd (j:=H.length) (by omega) (Qb zz _) _) _⟩
     ·exact Qg (z0A _) _
     rw[zH (by omega),zH (by omega),zI (by omega)];exact zk i hi
    have z8:¬(kd:Int)=d - 1:=by simpa using h
    repeat(refine s_ ?_;simp)
    refine⟨Qb zz _,.inl ⟨rfl,⟨by rw[z6,decide_eq_false z8],?_,?_,λi hi=>?_⟩,λi cs hi hc=>?_⟩⟩
    ·rw[fl];exact Qg (Qb zz _) _
    ·exact z0A _
    ·rw[zH (by omega),zI (by omega)];exact zk i hi
    exact Qd (j:=H.length+1) (by omega) (Qb (zv i cs hi hc) _) _
  rintro _ H' (⟨h1,h2,h3,h4⟩|⟨c,rfl,h1,h2,h3,h4⟩)
  ·exact .inl ⟨h1,⟨_,_,_,_,h2.trans fl⟩,h3,h4⟩
  exact .inr ⟨h1,h2,h3,h4⟩
 rintro _ H' (⟨h1,⟨sl',ps',a',b',h2⟩,h3,h4⟩|⟨h1,⟨sl',ps',a',b',h2⟩,h3,h4⟩)
 ·refine⟨true,none,34,sl',ps',a',b',by simpa using h2,?_⟩;simp;have z0:=Qd (j:=H.length+1) (by omega) h3 .dead;have z0H:∀hh,(H'.set (H.length+1) .dead)[H.length]'hh= .vars [.bool false]:=λhh=>(yI hh).2 z0;rw[h1];have zk:∀i,i<H.length->(H'.set (H.length+1) .dead)[i]? =H[i]? :=λi hi=>by rw[zH (by omega)];exact h4 i hi
  generalize H'.set (H.length+1) .dead=Z at *
  repeat(refine s_ ?_;simp[z0,z0H,Qg z0])
  exact λi hi=>by rw[zH (by omega)];exact zk i hi
 refine⟨false,some .ret,34,sl',ps',a',b',by simpa using h2,?_⟩;simp;have z0:=Qd (j:=H.length+1) (by omega) h3 .dead;rw[h1];have zk:∀i,i<H.length->(H'.set (H.length+1) .dead)[i]? =H[i]? :=λi hi=>by rw[zH (by omega)];exact h4 i hi
 generalize H'.set (H.length+1) .dead=Z at *
 repeat(refine s_ ?_;simp[z0])
 exact zk
end
section
open Go.Maps
def q1i{G K:List AObj}(h:∀i,i<G.length->K[i]? =G[i]?):∃E,K=G++E:=by
 refine⟨K.drop G.length,?_⟩;have hl:G.length<=K.length:=by
  by_cases h0:G.length=0
  ·omega
  have:=h (G.length - 1) (by omega);have h2:G[G.length - 1]?=some (G[G.length - 1]'(by omega)):=zP (by omega);rw[h2]at this;have:=Qf this;omega
 refine xQ λi=>?_;by_cases hi:i<G.length
 ·rw[zI hi];exact h i hi
 rw[zO (by omega),List.getElem?_drop]
 congr 1;omega
def fdR(n:Nat)(g:Int×Int->Bool)(i:Nat):List (Int×Int):=((y_ i).flatMap λx:Nat=>(y_ n).map λy:Nat=>((x:Int),(y:Int))).filter g
def fdC(g:Int×Int->Bool)(i j:Nat):List (Int×Int):=((y_ j).map λy:Nat=>((i:Int),(y:Int))).filter g
def x0x(n:Nat)(g:Int×Int->Bool):fdR n g 0=[]:=by simp[fdR]
def x0n(g:Int×Int->Bool)(i:Nat):fdC g i 0=[]:=by simp[fdC]
def f1s(n:Nat)(g:Int×Int->Bool)(i:Nat):fdR n g (i+1)=fdR n g i++fdC g i n:=by unfold fdR fdC;rw[vz,wS,uO];simp
def v1v(g:Int×Int->Bool)(i j:Nat):fdC g i (j+1)=fdC g i j++(if g ((i:Int),(j:Int))=true then [((i:Int),(j:Int))]else []):=by
 unfold fdC;rw[vz,xA,uO]
 congr 1
 rw[List.map_cons,List.map_nil,td,sc]
def k29(a:Aut)(g:Int×Int->Bool):fdR a.fin.length g a.fin.length=(Ar a a).filter g:=by
 unfold fdR Ar Wj
 congr 1
 rw[List.flatMap_map];simp[vV,Function.comp_def]
def Nb(n:Nat):∀i:Nat,((y_ i).map λ_:Nat=>n).sum=i * n
 |0=>by simp
 |i+1=>by rw[vz,xA,List.sum_append,Nb n i];simp[uU]
def k2v(n:Nat)(g:Int×Int->Bool)(i j:Nat)(hi:i<=n)(hj:j<=n):(fdR n g i++fdC g i j).length<=n * n+n:=by
 rw[yP];have h1:(fdR n g i).length<=i * n:=by
  unfold fdR;refine yW (xN _ _) ?_;rw[List.length_flatMap];have:((y_ i).map λx:Nat=>((y_ n).map λy:Nat=>((x:Int),(y:Int))).length).sum=i * n:=by simpa using Nb n i
  omega
 have h2:(fdC g i j).length<=j:=by unfold fdC;refine yW (xN _ _) ?_;simp
 have:=Nat.mul_le_mul_right n hi;omega
def Gg(a:Aut)(near:Gf)(pf:Int×Int->Bool)(s:Int×Int):Bool:=(lkN near s).isNone && pf s
def V6(a:Aut)(near:Gf)(pf:Int×Int->Bool):List (Int×Int):=(Ar a a).filter (Gg a near pf)
def Vr{a:Aut}{near:Gf}{pf:Int×Int->Bool}{s:Int×Int}(h:s∈V6 a near pf):inP a s/\s∉near.map (·.1):=by obtain⟨h1,h2⟩:=List.mem_filter.1 h;refine⟨c0e h1,Xk.1 ?_⟩;unfold Gg at h2;simp only[yJ,Option.isNone_iff_eq_none]at h2;exact h2.1
def q1b(a:Aut)(near:Gf)(pf:Int×Int->Bool):(V6 a near pf).Nodup:=(Za a).filter _
def NK.round{a:Aut}(ha:OkA a){near:Gf}(h:NK near)(pf:Int×Int->Bool)(d:Nat){l r:List (Int×Int)}(he:V6 a near pf=l++r):NK (near++l.map λs=>(s,d)):=by
 have hl:∀s∈l,s∈V6 a near pf:=λs hs=>by rw[he];simp[hs]
 refine⟨?_,λe hm=>?_⟩
 ·rw[xA,vD];refine⟨h.nd,?_,λx hx y hy e=>?_⟩
  ·have:=q1b a near pf;rw[he,vD]at this;simpa[Function.comp_def]using this.1
  simp only[vV,Function.comp_def,sA]at hy;subst e;exact(Vr (hl _ hy)).2 hx
 rcases yB.1 hm with hm|hm
 ·exact h.ok e hm
 obtain⟨s,hs,rfl⟩:=zU.1 hm;exact Bm ha ha (Vr (hl s hs)).1
attribute [local irreducible] lkN Gg fdR fdC
def y0v (a:Aut) (ha:OkA a) (H:List AObj) (nC N M:Nat) (near:Gf) (d:Nat) (pf:Int×Int->Bool) (f:FuncId) (cs:List AV) (hn:H[nC]?=some (.vars [.i a.fin.length])) (hN:H[N]?=some (.vars [.mref M])) (hM:H[M]?=some (mpN near)) (zv:NK near)
  (zf:∀(p q:Int) (H':List AObj),inS a p->inS a q->(∀i,i<H.length->H'[i]? =H[i]?)->FC prog f ([]++[.i p,.i q]++cs) H' (λr K=>r= .bool (pf (p,q))/\∀i,i<H'.length->K[i]? =H'[i]?)):
  FC prog 226 [.i d,.fn (.func f) [] cs,.vptr nC 0,.vptr N 0] H (λr H'=>r= .bool (decide (0<(V6 a near pf).length))/\H'[M]?=some (mpN (near++(V6 a near pf).map λs=>(s,d)))/\∀i,i<H.length->i≠M->H'[i]? =H[i]?):=by
 refine fcB func226 results226 ntmps226 ?_;simp only[Qe];have za:=ha.fin;have yl:=Qf hn;have y7:=Qf hN;have y8:=Qf hM;have y9:=k29 a (Gg a near pf);have ya:=k2v a.fin.length (Gg a near pf);have yb:a.fin.length * a.fin.length<=65536:=yW (uF za.2 za.2) (by decide);repeat(refine s_ ?_;simp[hn])
 refine Q5 7 66 2 rfl ?_;simp;have hst:=SL.start H 66 2;refine Qi (Qc (sl':=[(0,.i d),(1,.fn (.func f) [] cs),(2,.vptr nC 0),(3,.vptr N 0),(6,.bool false),(7,.sl H.length 2 0 (fdR a.fin.length (Gg a near pf) 0).length),(14,.i a.fin.length),(15,.i (0:Nat))]) ?_ (by simp[x0x]));refine Qj (F:=λ(u:Nat×Nat×List AObj)=>⟨[(0,.i d),(1,.fn (.func f) [] cs),(2,.vptr nC 0),(3,.vptr N 0),(6,.bool false),(7,.sl u.2.1 2 0 (fdR a.fin.length (Gg a near pf) u.1).length),(14,.i a.fin.length),(15,.i u.1)],u.2.2⟩)
  (λu=>u.1<=a.fin.length/\SL H u.2.2 u.2.1 66 2 ((fdR a.fin.length (Gg a near pf) u.1).map kyP)) (λu=>a.fin.length - u.1) ?_ (0,H.length,_) ⟨xP _,by rw[x0x];exact hst⟩
 rintro⟨i,q,G⟩ ⟨hi,hs⟩ ih;simp only at hi hs ih |-;repeat(refine s_ ?_;simp)
 refine Qa rfl (λyc=>?_) (λyd=>?_)
 ·have ye:i<a.fin.length:=by simpa using yc
  have hw:=wz i (by omega);have zw:=λq' G'=>ih (i+1,q',G');simp only[f1s]at zw;have gn:=hs.kp hn;repeat(refine s_ ?_;simp[gn])
  refine Qi (Qc (sl':=[(0,.i d),(1,.fn (.func f) [] cs),(2,.vptr nC 0),(3,.vptr N 0),(6,.bool false),(7,.sl q 2 0 (fdR a.fin.length (Gg a near pf) i++fdC (Gg a near pf) i 0).length),(8,.i i),(14,.i a.fin.length),(15,.i i),(18,.i a.fin.length),(19,.i (0:Nat))]) ?_ (by simp[x0n]));refine Qj (F:=λ(u:Nat×Nat×List AObj)=>⟨[(0,.i d),(1,.fn (.func f) [] cs),(2,.vptr nC 0),(3,.vptr N 0),(6,.bool false),(7,.sl u.2.1 2 0 (fdR a.fin.length (Gg a near pf) i++fdC (Gg a near pf) i u.1).length),(8,.i i),(14,.i a.fin.length),(15,.i i),(18,.i a.fin.length),(19,.i u.1)],u.2.2⟩)
   (λu=>u.1<=a.fin.length/\SL H u.2.2 u.2.1 66 2 ((fdR a.fin.length (Gg a near pf) i++fdC (Gg a near pf) i u.1).map kyP)) (λu=>a.fin.length - u.1) ?_ (0,q,G) ⟨xP _,by rw[x0n,xO];exact hs⟩
  clear hs gn;clear G q;rintro⟨j,q,G⟩ ⟨hj,hs⟩ ih2;simp only at hj hs ih2 |-;repeat(refine s_ ?_;simp)
  refine Qa rfl (λzg=>?_) (λzh=>?_)
  ·have zx:j<a.fin.length:=by simpa using zg
   have zi:=wz j (by omega);have z1:=λq' G'=>ih2 (j+1,q',G');simp only[v1v]at z1;have gN:=hs.kp hN;have gM:=hs.kp hM;have zy:inS a (i:Int):=⟨by omega,by omega⟩
   have zz:inS a (j:Int):=⟨by omega,by omega⟩
   have zj:okK ((i:Int),(j:Int)):=Bm ha ha ⟨zy,zz⟩;have ym:=ya i j hi hj;have yf:=hs.le;have zk:∀x,x<H.length->G[x]? =H[x]? :=λx hx=>by have h1:H[x]?=some H[x]:=zP hx;rw[h1];exact hs.kp h1
   have z7:Gg a near pf ((i:Int),(j:Int))=((lkN near ((i:Int),(j:Int))).isNone && pf ((i:Int),(j:Int))):=by unfold Gg;rfl
   repeat(refine s_ ?_;simp[gN])
   refine Al rfl rfl rfl rfl (s:=((i:Int),(j:Int))) rfl (near:=near) gM zv zj ?_;simp;generalize hL:fdR a.fin.length (Gg a near pf) i++fdC (Gg a near pf) i j=L at *;simp only[<-xU,hL]at z1
   have zb:(fdR a.fin.length (Gg a near pf) i).length+(fdC (Gg a near pf) i j).length=L.length:=by rw[<-hL,yP]
   cases hlk:lkN near ((i:Int),(j:Int))with
   |some kd=>
    rw[hlk]at z7;simp at z7;simp only[z7,uV,if_false,xO]at z1;repeat(refine s_ ?_;simp)
    refine Wg rfl rfl ?_;simp;refine Qv rfl ?_;repeat(refine s_ ?_;simp[zi])
    refine Qc (sl':=[(0,.i d),(1,.fn (.func f) [] cs),(2,.vptr nC 0),(3,.vptr N 0),(6,.bool false),(7,.sl q 2 0 L.length),(8,.i i),(14,.i a.fin.length),(15,.i i),(18,.i a.fin.length),(19,.i (j+1:Nat))]) ?_ (by simp[zb]);exact z1 q G ⟨by omega,hs⟩ (by omega)
   |none=>
    rw[hlk]at z7;simp at z7;repeat(refine s_ ?_;simp)
    refine Q0 rfl rfl (zf i j G zy zz zk) rfl ?_;rintro _ K ⟨rfl,hK⟩;obtain⟨E,rfl⟩:=q1i hK;have z8:=hs.add E;generalize G++E=G2 at *
    simp;cases hpf:pf ((i:Int),(j:Int))with
    |true=>
     rw[hpf]at z7;simp only[z7,if_true]at z1;have y0:(L.map kyP).length=L.length:=by simp
     generalize zl:L.map kyP=acc at *;refine Qv rfl ?_
     repeat(refine s_ ?_;simp)
     refine apS T41 T66 ?_;simp[Qb z8.arr,Qh z8.arr,y0,zb];refine⟨by simp[W1,Qb z8.arr,Qh z8.arr,y0,zb]<;>omega,?_⟩;repeat(refine s_ ?_;simp[zi])
     refine Qc (sl':=[(0,.i d),(1,.fn (.func f) [] cs),(2,.vptr nC 0),(3,.vptr N 0),(6,.bool false),(7,.sl (G2.length+1) 2 0 (L++[((i:Int),(j:Int))]).length),(8,.i i),(14,.i a.fin.length),(15,.i i),(18,.i a.fin.length),(19,.i (j+1:Nat))]) ?_ (by simp[zb]);refine z1 (G2.length+1) _ ⟨by omega,?_⟩ (by omega);have:=z8.put [AObj.arr 66 2 [kyP ((i:Int),(j:Int))]] (acc++[kyP ((i:Int),(j:Int))]) rfl;rw[show(L++[((i:Int),(j:Int))]).map kyP=acc++[kyP ((i:Int),(j:Int))] by rw[<-zl];simp];exact this
    |false=>
     rw[hpf]at z7;simp only[z7,uV,if_false,xO]at z1;refine Qv rfl ?_;repeat(refine s_ ?_;simp[zi])
     refine Qc (sl':=[(0,.i d),(1,.fn (.func f) [] cs),(2,.vptr nC 0),(3,.vptr N 0),(6,.bool false),(7,.sl q 2 0 L.length),(8,.i i),(14,.i a.fin.length),(15,.i i),(18,.i a.fin.length),(19,.i (j+1:Nat))]) ?_ (by simp[zb]);exact z1 q G2 ⟨by omega,z8⟩ (by omega)
  have zc:j=a.fin.length:=by simp at zh;omega
  subst zc;repeat(refine s_ ?_;simp[hw])
  refine Qc (sl':=[(0,.i d),(1,.fn (.func f) [] cs),(2,.vptr nC 0),(3,.vptr N 0),(6,.bool false),(7,.sl q 2 0 (fdR a.fin.length (Gg a near pf) i++fdC (Gg a near pf) i a.fin.length).length),(14,.i a.fin.length),(15,.i (i+1:Nat))]) ?_ (by simp);exact zw q G ⟨by omega,hs⟩ (by omega)
 have zm:i=a.fin.length:=by simp at yd;omega
 subst zm;rw[y9]at hs |-;have yg:(Ar a a).filter (Gg a near pf)=V6 a near pf:=rfl;rw[yg]at hs |-;have yn:(V6 a near pf).length<=65536:=by refine yW (xN _ _) ?_;rw[Pa];exact yb
 have y1:=λl r h=>zv.round ha pf d (l:=l) (r:=r) h;have y2:=λs h=>Vr (a:=a) (near:=near) (pf:=pf) (s:=s) h;have zn:=q1b a near pf;generalize V6 a near pf=L at *
 have zk:∀x,x<H.length->G[x]? =H[x]? :=λx hx=>by have h1:H[x]?=some H[x]:=zP hx;rw[h1];exact hs.kp h1
 have yf:=hs.le;have yo:H.length<=q:=hs.ge;refine Qp (sl':=[(0,.i d),(3,.vptr N 0),(6,.bool false),(7,.sl q 2 0 L.length)]) ?_ (by simp);refine Wu q hs.arr ?_;simp[AV.fz];rw[zZ (by simp)];have yk:∀x,x<H.length->(G.set q .dead)[x]? =H[x]? :=λx hx=>by rw[zH (by omega)];exact zk x hx
 generalize G.set q .dead=Y at *
 repeat(refine s_ ?_;simp)
 refine Qi (Qc (sl':=[(0,.i d),(3,.vptr N 0),(6,.bool false),(7,.list (L.map kyP)),(46,.list (L.map kyP)),(47,.i L.length),(48,.i (0:Nat))]) ?_ (by simp));refine Qj (F:=λ(u:Nat×List AObj)=>⟨[(0,.i d),(3,.vptr N 0),(6,.bool false),(7,.list (L.map kyP)),(46,.list (L.map kyP)),(47,.i L.length),(48,.i u.1)],u.2⟩)
  (λu=>u.1<=L.length/\u.2[M]?=some (mpN (near++(L.take u.1).map λs=>(s,d)))/\∀i,i<H.length->i≠M->u.2[i]? =H[i]?) (λu=>L.length - u.1) ?_ (0,Y) ⟨xP _,by simpa using(yk M y8).trans hM,λi hi _=>yk i hi⟩
 clear yk;clear Y;rintro⟨k,Y⟩ ⟨hk,yM,yk⟩ ih3;simp only at hk yM yk ih3 |-;repeat(refine s_ ?_;simp)
 refine Qa rfl (λzo=>?_) (λzp=>?_)
 ·have z6:k<L.length:=by simpa using zo
  have yh:=wz k (by omega);have yi:N≠M:=λe=>by rw[e,hM]at hN;simp[mpN]at hN
  have y3:(L.map kyP)[k]?=some (kyP L[k]):=by simp[z6]
  have y4:∀hh,(L.map kyP)[k]'hh=kyP L[k]:=λhh=>by simp
  have zq:L.take k++L[k]::L.drop (k+1)=L:=by rw[<-wQ z6,xW]
  have zr:=y1 (L.take k) (L[k]::L.drop (k+1)) zq.symm;have y5:=y2 L[k] (zT z6);have zj:=Bm ha ha y5.1;have zt:L[k]∉(near++(L.take k).map λs=>(s,d)).map (·.1):=by rw[xA,yB,not_or];refine⟨y5.2,λh=>?_⟩;simp only[vV,Function.comp_def,sA]at h;rw[<-zq,vD]at zn;exact zn.2.2 _ h _ List.mem_cons_self rfl
  have y6:(L.take (k+1)).map (λs=>(s,d))=(L.take k).map (λs=>(s,d))++[(L[k],d)]:=by rw[zY z6,xA];rfl
  have zd:=λG'=>ih3 (k+1,G');simp only[y6,<-xU]at zd;generalize L[k]=s at *;clear zq y6 zn y2 y1;generalize near++(L.take k).map (λs=>(s,d))=nr at *
  have yN:=(yk N y7 yi).trans hN;have yNA:∀E,(Y++E)[N]?=some (.vars [.mref M]):=λE=>Qb yN E;simp only[kyP]at y3 y4;repeat(refine s_ ?_;simp[y3,y4,z6,yNA])
  refine u00 rfl rfl rfl rfl (s:=s) rfl (d:=d) rfl (near:=nr) (Qb yM _) zr zj zt ?_;simp;repeat(refine s_ ?_;simp[yh])
  refine Qc (sl':=[(0,.i d),(3,.vptr N 0),(6,.bool false),(7,.list (L.map kyP)),(46,.list (L.map kyP)),(47,.i L.length),(48,.i (k+1:Nat))]) ?_ (by simp);refine zd _ ⟨by omega,Qg (Qb yM _) _,λi hi zu=>?_⟩ (by omega);have yj:i<Y.length:=Qf ((yk i hi zu).trans (zP hi));rw[zH (Ne.symm zu),zI yj];exact yk i hi zu
 have ze:k=L.length:=by simp at zp;omega
 subst ze;rw[yR]at yM;repeat(refine s_ ?_;simp)
 exact⟨yM,yk⟩
end
section
open Go.Maps
attribute [simp] c2i
def Ng(a b:Aut)(s:Int×Int):PC prog 129 [encA a,encA b,pqr s] (λr=>r= .fn (.func 190) [] [.iptr (Ql a),.iptr [.i s.1,.i s.2],.iptr (Ql b)]):=by refine pcB func129 results129 ntmps129 ?_;simp only[Qe];simp only[encA,pqr];repeat(refine s_ ?_;simp)
def oS(s:Int):Option Mv->Int
 |some m=>m.src
 |none=>s
def oP:Option Mv->List AV
 |some m=>m.on.map encL
 |none=>[]
def v0v(s:Int)(o:Option Mv):W5 s o= .agg [.i (oS s o),.i (Dl o),.list (oP o)]:=by cases o<;>rfl
def ldR(a b:Aut)(s:Int×Int)(o:Option Mv)(k:Nat):List Stp:=((Wl b s.2).take k).filterMap (k1c a b s o)
def ldT(a b:Aut)(s:Int×Int)(i:Nat):List Stp:=((Wl a s.1).take i).flatMap λo=>ldR a b s o (Wl b s.2).length
def v1e(a b:Aut)(s:Int×Int):ldT a b s (Wl a s.1).length=V1 a b s:=by unfold ldT ldR V1;rw[yR,yR]
def v0l(a b:Aut)(s:Int×Int):ldT a b s 0=[]:=by simp[ldT]
def k1o(a b:Aut)(s:Int×Int)(o:Option Mv):ldR a b s o 0=[]:=by simp[ldR]
def y0s(a b:Aut)(s:Int×Int){i:Nat}{o:Option Mv}(h:(Wl a s.1)[i]?=some o):ldT a b s (i+1)=ldT a b s i++ldR a b s o (Wl b s.2).length:=by obtain⟨hi,rfl⟩:=zE.1 h;unfold ldT;rw[zY hi,wS];simp
def u11(a b:Aut)(s:Int×Int)(o:Option Mv){k:Nat}{r:Option Mv}(h:(Wl b s.2)[k]?=some r):ldR a b s o (k+1)=ldR a b s o k++(match V7 (q0z a b s o r)with|some x=>[(x,(Dl o,Dl r))]|none=>[]):=by
 obtain⟨hk,rfl⟩:=zE.1 h;unfold ldR;rw[zY hk,uA]
 congr 1
 simp only[List.filterMap_cons,List.filterMap_nil,f1l];cases V7 (q0z a b s o (Wl b s.2)[k])<;>rfl
def w1l(a b:Aut)(s:Int×Int)(o:Option Mv)(k:Nat):(ldR a b s o k).length<=k:=by unfold ldR;refine yW (List.length_filterMap_le _ _) ?_;rw[wC];omega
def q0w(a b:Aut)(s:Int×Int):∀i,(ldT a b s i).length<=i * (Wl b s.2).length
 |0=>by rw[v0l];simp
 |i+1=>by
  have ih:=q0w a b s i;by_cases h:i<(Wl a s.1).length
  ·rw[y0s a b s (zP h),yP,uU];have:=w1l a b s (Wl a s.1)[i] (Wl b s.2).length;omega
  have e:ldT a b s (i+1)=ldT a b s i:=by unfold ldT;rw[zZ (by omega),zZ (by omega)]
  rw[e,uU];omega
def Gm{a:Aut}(ha:OkA a)(s:Int):(Wl a s).length<=2049/\0<(Wl a s).length:=by have h:(mvS a s).length<=a.mv.length:=xN _ _;have:=ha.mvs;unfold Wl;simp;omega
def w2m{a b:Aut}(ha:OkA a)(hb:OkA b)(s:Int×Int)(o:Option Mv){i k:Nat}(hi:i<(Wl a s.1).length)(hk:k<=(Wl b s.2).length):(ldT a b s i++ldR a b s o k).length<=4198401:=by
 have h1:=q0w a b s i;have h2:=w1l a b s o k;have h3:=(Gm ha s.1).1;have h4:=(Gm hb s.2).1;rw[yP];have h5:i * (Wl b s.2).length+(Wl b s.2).length<=2049 * 2049:=by rw[<-uU];exact uF (by omega) h4
 omega
def z1g{a:Aut}(ha:OkA a){s:Int}{o:Option Mv}(h:o∈Wl a s):(∀p∈Ls o,PCk a.types.toNat p)/\(∀p∈A2 a s o,PCk a.types.toNat p)/\(Ls o).length<=1/\(A2 a s o).length<=2048:=by
 have hl:(mvS a s).length<=a.mv.length:=xN _ _;have:=ha.mvs;rcases Ij.1 h with rfl|⟨m,hm,rfl⟩
 ·refine⟨λp h=>(by cases h),λp hp=>?_,by simp[Ls],by simp[A2];omega⟩;obtain⟨m,hm,rfl⟩:=zU.1 hp;exact(ha.mv m (R0.1 hm).1).on
 refine⟨λp hp=>?_,λp h=>(by cases h),by simp[Ls],by simp[A2]⟩;rw[List.mem_singleton.1 hp];exact(ha.mv m (R0.1 hm).1).on
def q02(p q:List Prd):Oa [p,q]=p++q:=by simp[Oa]
attribute [local irreducible] Wl Ls A2 V1 ldR ldT V7 Ic Oa
def K8 (a b:Aut) (ha:OkA a) (hb:OkA b) (ht:b.types=a.types) (yi:Dta a) (yj:Dta b) (s:Int×Int) (l:Nat) {z7:Nat} {sl':List (Nat×AV)} {ps:List Tmp} {asg body:Code} (yk:ps.length=1) (yl:(ps.all λp=>decide (p<z7))=true)
  (Inv:List Stp->List AObj->Prop) (Done:Code->List AObj->Prop) (H0:List AObj)
  (hI:∀k H,Inv k H->H[l]?=some (.lp true none z7 sl' ps asg body))
  (z8:∀k H L,Inv k H->Inv k (H++L))
  (zc:∀pre e post H,Ic a b s=pre++e::post->Inv pre H->H0.length<=H.length->AWP prog z7 H.length asg (Aw (AWP prog z7 H.length body (v02 l (λjm K2=>(jm=none/\Inv (pre++[e]) (K2.set l (.lp true none z7 sl' ps asg body))/\∀i cs,H0.length<=i->H[i]?=some (.vars cs)->(K2.set l (.lp true none z7 sl' ps asg body))[i]?=some (.vars cs))\/∃c,jm=some c/\Done c (K2.set l (.lp false (some c) z7 sl' ps asg body))))) (λ_ _=>False)) ⟨Rz sl' ps [Eo e],H.set l .dead⟩)
  (h0:Inv [] H0):FC prog 190 [.yld l,.iptr (Ql a),.iptr [.i s.1,.i s.2],.iptr (Ql b)] H0 (λ_ H'=>Inv (Ic a b s) H'\/∃c,Done c H'):=by
 refine fcB func190 results190 ntmps190 ?_;simp only[Qe];have cOa:=Kf a s.1 (by have:=ha.mvs;omega);have cOb:=Kf b s.2 (by have:=hb.mvs;omega);have ym:=Gm ha s.1;have yn:=Gm hb s.2;simp only[encA]at cOa cOb;repeat(refine s_ ?_;simp)
 refine Qn tOk mixed [] (.val 0 (.val 1 (.val 2 (.val 4 (.val 5 (.val 6 (.one 3 (.one 7 (.val 8 (.val 9 (.done))))))))))) rfl (by kernel_rfl) ?_;simp;refine pcL (cOa) ?_;simp;refine pcL (cOb) ?_;simp;repeat(refine s_ ?_;simp)
 refine Q5 5 184 4 rfl ?_;simp;have hst:=SL.start H0 184 4;have y3:=v0l a b s;refine Qi (Qc (sl':=[(0,.yld l),(1,.iptr (Ql a)),(2,.iptr [.i s.1,.i s.2]),(3,.iptr (Ql b)),(5,.sl H0.length 4 0 (ldT a b s 0).length),(6,.list ((Wl a s.1).map (W5 s.1))),(7,.list ((Wl b s.2).map (W5 s.2))),(28,.list ((Wl a s.1).map (W5 s.1))),(29,.i (Wl a s.1).length),(30,.i (0:Nat))]) ?_ (by simp[y3]));refine Qj (P:=prog) (F:=λ(u:Nat×Nat×List AObj)=>⟨[(0,.yld l),(1,.iptr (Ql a)),(2,.iptr [.i s.1,.i s.2]),(3,.iptr (Ql b)),(5,.sl u.2.1 4 0 (ldT a b s u.1).length),(6,.list ((Wl a s.1).map (W5 s.1))),(7,.list ((Wl b s.2).map (W5 s.2))),(28,.list ((Wl a s.1).map (W5 s.1))),(29,.i (Wl a s.1).length),(30,.i u.1)],u.2.2⟩)
  (λu=>u.1<=(Wl a s.1).length/\SL H0 u.2.2 u.2.1 184 4 ((ldT a b s u.1).map Eo)) (λu=>(Wl a s.1).length - u.1) ?_ (0,H0.length,_) ⟨xP _,by rw[y3];simpa using hst⟩
 rintro⟨i,q,G⟩ ⟨hi,g⟩ ih;simp only at hi g ih |-;repeat(refine s_ ?_;simp)
 refine Qa rfl (λyo=>?_) (λyp=>?_)
 ·have zd:i<(Wl a s.1).length:=by simpa using yo
  have hw:=wz i (by omega);obtain⟨o,ho⟩:∃o,(Wl a s.1)[i]?=some o:=⟨_,zP zd⟩
  have y4:=zL ho;obtain⟨k1,k2,k3,k4⟩:=z1g ha y4;have yq:=y0s a b s ho;have y5:=λk h=>w2m ha hb s o (i:=i) (k:=k) zd h;have zv:=λq' G'=>ih (i+1,q',G');simp only[yq]at zv;have cSa:=Bb a s.1 i o ho (by have:=ha.mvs;omega);have zw:=λr h=>x28 ha hb ht (s:=s) (o:=o) (r:=r) y4 h;have y6:=λk r h=>u11 a b s o (k:=k) (r:=r) h;have y7:=k1o a b s o;have zl:((Wl a s.1).map (W5 s.1))[i]?=some (.agg [.i (oS s.1 o),.i (Dl o),.list (oP o)]):=by rw[z_,ho,wP,v0v]
  have zn:∀hh,((Wl a s.1).map (W5 s.1))[i]'hh= .agg [.i (oS s.1 o),.i (Dl o),.list (oP o)]:=λhh=>(yI hh).2 zl;generalize oP o=vo at *;generalize ldT a b s i=A at *
  obtain⟨Bf,zm⟩:∃Bf:Nat->List Stp,∀k,Bf k=A++ldR a b s o k:=⟨_,λ_=>rfl⟩
  have y8:Bf 0=A:=by rw[zm,y7,xO]
  have yr:∀k r,(Wl b s.2)[k]?=some r->Bf (k+1)=Bf k++(match V7 (q0z a b s o r)with|some x=>[(x,(Dl o,Dl r))]|none=>[]):=λk r h=>by rw[zm,zm,y6 k r h,xU]
  have yt:∀k,k<=(Wl b s.2).length->(Bf k).length<=4198401:=λk h=>by rw[zm];exact y5 k h
  have y9:=zm (Wl b s.2).length;simp only[<-y9]at zv;clear zm y6 y7 y5 y9;repeat(refine s_ ?_;simp[zl,zn,zd])
  refine pcL (cSa) ?_;simp;repeat(refine s_ ?_;simp)
  refine Wb λY hY=>?_;have yx:Y[G.length]?=some (.vars [.i (oS s.1 o),.i (Dl o),.list vo]):=by rw[hY,zO (by simp)];simp
  have gy:SL H0 Y q 184 4 ((Bf 0).map Eo):=by rw[hY,y8];exact g.add _
  clear hY g;generalize G.length=x at *;clear G;clear zl zn;refine Qi (Qc (sl':=[(0,.yld l),(1,.iptr (Ql a)),(2,.iptr [.i s.1,.i s.2]),(3,.iptr (Ql b)),(5,.sl q 4 0 (Bf 0).length),(6,.list ((Wl a s.1).map (W5 s.1))),(7,.list ((Wl b s.2).map (W5 s.2))),(9,.vptr x 0),(10,LP (Ls o)),(11,LP (A2 a s.1 o)),(28,.list ((Wl a s.1).map (W5 s.1))),(29,.i (Wl a s.1).length),(30,.i i),(41,.list ((Wl b s.2).map (W5 s.2))),(42,.i (Wl b s.2).length),(43,.i (0:Nat))]) ?_ (by simp[y8]))
  refine Qj (P:=prog) (F:=λ(u:Nat×Nat×List AObj)=>⟨[(0,.yld l),(1,.iptr (Ql a)),(2,.iptr [.i s.1,.i s.2]),(3,.iptr (Ql b)),(5,.sl u.2.1 4 0 (Bf u.1).length),(6,.list ((Wl a s.1).map (W5 s.1))),(7,.list ((Wl b s.2).map (W5 s.2))),(9,.vptr x 0),(10,LP (Ls o)),(11,LP (A2 a s.1 o)),(28,.list ((Wl a s.1).map (W5 s.1))),(29,.i (Wl a s.1).length),(30,.i i),(41,.list ((Wl b s.2).map (W5 s.2))),(42,.i (Wl b s.2).length),(43,.i u.1)],u.2.2⟩)
   (λu=>u.1<=(Wl b s.2).length/\SL H0 u.2.2 u.2.1 184 4 ((Bf u.1).map Eo)/\u.2.2[x]?=some (.vars [.i (oS s.1 o),.i (Dl o),.list vo])) (λu=>(Wl b s.2).length - u.1) ?_ (0,q,Y) ⟨xP _,gy,yx⟩
  clear gy yx;clear Y q;rintro⟨k,q,Y⟩ ⟨hk,gy,yx⟩ ih2;simp only at hk gy yx ih2 |-;have x7:=yt k hk;repeat(refine s_ ?_;simp)
  refine Qa rfl (λze=>?_) (λzf=>?_)
  ·have z1:k<(Wl b s.2).length:=by simpa using ze
   have zr:=wz k (by omega);obtain⟨r,hr⟩:∃r,(Wl b s.2)[k]?=some r:=⟨_,zP z1⟩
   have ya:=zL hr;obtain⟨j1,j2,j3,j4⟩:=z1g hb ya;have cSb:=Bb b s.2 k r hr (by have:=hb.mvs;omega);have hf:=zw r ya;have yu:=yr k r hr;have z6:=λq' G'=>ih2 (k+1,q',G');simp only[yu]at z6;have cL:=Mc a.types.toNat (by have:=ha.types;omega) (Ls o++Ls r) (A2 a s.1 o++A2 b s.2 r) (λp hp=>(yB.1 hp).elim (k1 p) (λh=>by rw[<-ht];exact j1 p h)) (λp hp=>(yB.1 hp).elim (k2 p) (λh=>by rw[<-ht];exact j2 p h)) (q0z a b s o r) hf;have yv:((a.types.toNat:Nat):Int)=a.types:=by have:=ha.types;omega
   rw[yv,q2l]at cL;have zg:((Wl b s.2).map (W5 s.2))[k]?=some (.agg [.i (oS s.2 r),.i (Dl r),.list (oP r)]):=by rw[z_,hr,wP,v0v]
   have zo:∀hh,((Wl b s.2).map (W5 s.2))[k]'hh= .agg [.i (oS s.2 r),.i (Dl r),.list (oP r)]:=λhh=>(yI hh).2 zg;have cC1:=Zy [Ls o,Ls r] (by simp) (by rw[q02,yP];omega);have cC2:=Zy [A2 a s.1 o,A2 b s.2 r] (by simp) (by rw[q02,yP];omega);rw[q02]at cC1 cC2;generalize oP r=vr at *;generalize V7 (q0z a b s o r)=Z at *;generalize Bf k=B at *
   repeat(refine s_ ?_;simp[zg,zo,z1])
   refine pcL (cSb) ?_;simp;repeat(refine s_ ?_;simp)
   generalize Ls o++Ls r=I2 at *;generalize A2 a s.1 o++A2 b s.2 r=O2 at *;generalize Ls o=Io at *;generalize Ls r=Ir at *;generalize A2 a s.1 o=Oo at *;generalize A2 b s.2 r=Or at *;refine Wb λW hW=>?_
   have wx:W[x]?=some (.vars [.i (oS s.1 o),.i (Dl o),.list vo]):=by rw[hW];exact Qb yx _
   have wr:W[Y.length]?=some (.vars [.i (oS s.2 r),.i (Dl r),.list vr]):=by rw[hW,zO (by simp)];simp
   have gw:SL H0 W q 184 4 (B.map Eo):=by rw[hW];exact gy.add _
   clear hW gy yx zg zo;generalize Y.length=y at *;clear Y
   have zh:∀(u z:AObj) (E:List AObj),(W++u::E).set W.length z=W++z::E:=λu z E=>by rw[uB _ _ (by simp)];simp
   have zi:∀(u v z:AObj) (E:List AObj),(W++u::v::E).set (W.length+1) z=W++u::z::E:=λu v z E=>by rw[uB _ _ (by simp)];simp
   have zj:∀(u v t z:AObj) (E:List AObj),(W++u::v::t::E).set (W.length+2) z=W++u::v::z::E:=λu v t z E=>by rw[uB _ _ (by simp)];simp
   have zx:∀(u:AObj) (E:List AObj),(W++u::E)[W.length]?=some u:=λu E=>by rw[zO (by simp)];simp
   have zy:∀(u v:AObj) (E:List AObj),(W++u::v::E)[W.length+1]?=some v:=λu v E=>by rw[zO (by simp)];simp
   have zz:∀(u v t:AObj) (E:List AObj),(W++u::v::t::E)[W.length+2]?=some t:=λu v t E=>by rw[zO (by simp)];simp
   refine Qp (sl':=[(0,.yld l),(1,.iptr (Ql a)),(2,.iptr [.i s.1,.i s.2]),(3,.iptr (Ql b)),(5,.sl q 4 0 B.length),(6,.list ((Wl a s.1).map (W5 s.1))),(7,.list ((Wl b s.2).map (W5 s.2))),(9,.vptr x 0),(10,LP Io),(11,LP Oo),(13,.vptr y 0),(14,LP Ir),(15,LP Or),(28,.list ((Wl a s.1).map (W5 s.1))),(29,.i (Wl a s.1).length),(30,.i i),(41,.list ((Wl b s.2).map (W5 s.2))),(42,.i (Wl b s.2).length),(43,.i k)]) ?_ (by simp);refine U0 (P:=prog) tOk mixed [15] (.val 0 (.val 1 (.val 2 (.val 3 (.val 6 (.val 7 (.three 4 (.three 5 (.two 8 (.two 9 (.two 10 (.val 11 (.val 12 (.val 13 (.one 14 (.one 15 (.val 16 (.done))))))) 14 (.one 10 (.val 11 (.val 12 (.val 13 (.one 15 (.val 16 (.done)))))))) 14 (.one 9 (.one 10 (.val 11 (.val 12 (.val 13 (.one 15 (.val 16 (.done))))))))) 14 (.one 8 (.one 9 (.one 10 (.val 11 (.val 12 (.val 13 (.one 15 (.val 16 (.done)))))))))) 8 (.two 5 (.two 9 (.two 10 (.val 11 (.val 12 (.val 13 (.one 14 (.one 15 (.val 16 (.done))))))) 14 (.one 10 (.val 11 (.val 12 (.val 13 (.one 15 (.val 16 (.done)))))))) 14 (.one 9 (.one 10 (.val 11 (.val 12 (.val 13 (.one 15 (.val 16 (.done))))))))) 14 (.one 5 (.one 9 (.one 10 (.val 11 (.val 12 (.val 13 (.one 15 (.val 16 (.done)))))))))) 14 (.two 5 (.one 8 (.one 9 (.one 10 (.val 11 (.val 12 (.val 13 (.one 15 (.val 16 (.done))))))))) 8 (.one 5 (.one 9 (.one 10 (.val 11 (.val 12 (.val 13 (.one 15 (.val 16 (.done))))))))))) 8 (.two 4 (.two 5 (.two 9 (.two 10 (.val 11 (.val 12 (.val 13 (.one 14 (.one 15 (.val 16 (.done))))))) 14 (.one 10 (.val 11 (.val 12 (.val 13 (.one 15 (.val 16 (.done)))))))) 14 (.one 9 (.one 10 (.val 11 (.val 12 (.val 13 (.one 15 (.val 16 (.done))))))))) 14 (.one 5 (.one 9 (.one 10 (.val 11 (.val 12 (.val 13 (.one 15 (.val 16 (.done)))))))))) 14 (.one 4 (.one 5 (.one 9 (.one 10 (.val 11 (.val 12 (.val 13 (.one 15 (.val 16 (.done))))))))))) 14 (.two 4 (.two 5 (.one 8 (.one 9 (.one 10 (.val 11 (.val 12 (.val 13 (.one 15 (.val 16 (.done))))))))) 8 (.one 5 (.one 9 (.one 10 (.val 11 (.val 12 (.val 13 (.one 15 (.val 16 (.done)))))))))) 8 (.one 4 (.one 5 (.one 9 (.one 10 (.val 11 (.val 12 (.val 13 (.one 15 (.val 16 (.done)))))))))))))))))) (λS'=>∃(c:Nat) (E:List AObj),S'.hp=W++E/\(W++E)[c]?=some (.vars [.i (Z.getD ⟨0,0⟩).ty,.i (Z.getD ⟨0,0⟩).num])/\look S'.sl 16=some (.vptr c 0)/\look S'.sl 17=some (.bool Z.isSome)/\look S'.sl 0=some (.yld l)/\look S'.sl 1=some (.iptr (Ql a))/\look S'.sl 2=some (.iptr [.i s.1,.i s.2])/\look S'.sl 3=some (.iptr (Ql b))/\look S'.sl 5=some (.sl q 4 0 B.length)/\look S'.sl 6=some (.list ((Wl a s.1).map (W5 s.1)))/\look S'.sl 7=some (.list ((Wl b s.2).map (W5 s.2)))/\look S'.sl 9=some (.vptr x 0)/\look S'.sl 10=some (LP Io)/\look S'.sl 11=some (LP Oo)/\look S'.sl 13=some (.vptr y 0)/\look S'.sl 28=some (.list ((Wl a s.1).map (W5 s.1)))/\look S'.sl 29=some (.i (Wl a s.1).length)/\look S'.sl 30=some (.i i)/\look S'.sl 41=some (.list ((Wl b s.2).map (W5 s.2)))/\look S'.sl 42=some (.i (Wl b s.2).length)/\look S'.sl 43=some (.i k)) rfl (by kernel_rfl) ?_ ?_
   ·have za:y_ 2=[0,1]:=rfl;simp[wx,wr,za]
    repeat' (first
     |refine And.intro ?_ ?_
     |(refine pcL cL ?_;simp[wx,wr,za])
     |(refine Wq W.length (zx _ _) ?_;simp[zh,zi,zj];refine pcL cC1 ?_;simp[wx,wr,za])
     |(refine Wq (W.length+1) (zy _ _ _) ?_;simp[zh,zi,zj];refine pcL cC1 ?_;simp[wx,wr,za])
     |(refine Wq (W.length+2) (zz _ _ _ _) ?_;simp[zh,zi,zj];refine pcL cC1 ?_;simp[wx,wr,za])
     |(refine Wq W.length (zx _ _) ?_;simp[zh,zi,zj];refine pcL cC2 ?_;simp[wx,wr,za])
     |(refine Wq (W.length+1) (zy _ _ _) ?_;simp[zh,zi,zj];refine pcL cC2 ?_;simp[wx,wr,za])
     |(refine Wq (W.length+2) (zz _ _ _ _) ?_;simp[zh,zi,zj];refine pcL cC2 ?_;simp[wx,wr,za]))
   rintro⟨sl,E0⟩ ⟨c,E,rfl,hc,s16,s17,s0,s1,s2,s3,s5,s6,s7,s9,s10,s11,s13,s28,s29,s30,s41,s42,s43⟩;simp only at s16 s17 s0 s1 s2 s3 s5 s6 s7 s9 s10 s11 s13 s28 s29 s30 s41 s42 s43;simp;refine Qp (sl':=[(0,.yld l),(1,.iptr (Ql a)),(2,.iptr [.i s.1,.i s.2]),(3,.iptr (Ql b)),(5,.sl q 4 0 B.length),(6,.list ((Wl a s.1).map (W5 s.1))),(7,.list ((Wl b s.2).map (W5 s.2))),(9,.vptr x 0),(10,LP Io),(11,LP Oo),(13,.vptr y 0),(16,.vptr c 0),(17,.bool Z.isSome),(28,.list ((Wl a s.1).map (W5 s.1))),(29,.i (Wl a s.1).length),(30,.i i),(41,.list ((Wl b s.2).map (W5 s.2))),(42,.i (Wl b s.2).length),(43,.i k)]) ?_ (by simp[s16,s17,s0,s1,s2,s3,s5,s6,s7,s9,s10,s11,s13,s28,s29,s30,s41,s42,s43]);clear s16 s17 s0 s1 s2 s3 s5 s6 s7 s9 s10 s11 s13 s28 s29 s30 s41 s42 s43 zh zi zj zx zy zz;have zt:=Qb wx E;have yw:=Qb wr E;have zk:=gw.add E;clear wx wr gw;generalize W++E=X at *;clear W E
   have yb:(B.map Eo).length=B.length:=by simp
   cases Z with
   |none=>
    simp only[xO]at z6;repeat(refine s_ ?_;simp)
    refine Qa rfl (λh=>by simp at h) (λ_=>?_);repeat(refine s_ ?_;simp[zr])
    refine Qc (sl':=[(0,.yld l),(1,.iptr (Ql a)),(2,.iptr [.i s.1,.i s.2]),(3,.iptr (Ql b)),(5,.sl q 4 0 B.length),(6,.list ((Wl a s.1).map (W5 s.1))),(7,.list ((Wl b s.2).map (W5 s.2))),(9,.vptr x 0),(10,LP Io),(11,LP Oo),(28,.list ((Wl a s.1).map (W5 s.1))),(29,.i (Wl a s.1).length),(30,.i i),(41,.list ((Wl b s.2).map (W5 s.2))),(42,.i (Wl b s.2).length),(43,.i (k+1:Nat))]) ?_ (by simp);exact z6 q X ⟨by omega,zk,zt⟩ (by omega)
   |some z=>
    simp only[Option.getD_some]at hc;repeat(refine s_ ?_;simp)
    refine Qa rfl (λ_=>?_) (λh=>by simp at h);repeat(refine s_ ?_;simp[hc,zt,yw])
    refine apS d2t d2o ?_;simp[Qb zk.arr,Qh zk.arr,yb];refine⟨by simp[W1,Qb zk.arr,Qh zk.arr,yb]<;>omega,?_⟩;repeat(refine s_ ?_;simp[zr])
    refine Qc (sl':=[(0,.yld l),(1,.iptr (Ql a)),(2,.iptr [.i s.1,.i s.2]),(3,.iptr (Ql b)),(5,.sl (X.length+1) 4 0 (B++[(z,(Dl o,Dl r))]).length),(6,.list ((Wl a s.1).map (W5 s.1))),(7,.list ((Wl b s.2).map (W5 s.2))),(9,.vptr x 0),(10,LP Io),(11,LP Oo),(28,.list ((Wl a s.1).map (W5 s.1))),(29,.i (Wl a s.1).length),(30,.i i),(41,.list ((Wl b s.2).map (W5 s.2))),(42,.i (Wl b s.2).length),(43,.i (k+1:Nat))]) ?_ (by simp);have yy:x≠q:=λe=>by have:=zk.arr;rw[<-e,zt]at this;simp at this
    refine z6 (X.length+1) _ ⟨by omega,?_,Qb (Qd (Ne.symm yy) zt _) _⟩ (by omega);have y0:=zk.put [AObj.arr 184 4 [Eo (z,(Dl o,Dl r))]] ((B++[(z,(Dl o,Dl r))]).map Eo) (n:=X.length+1) rfl;simpa[Eo]using y0
  have yz:k=(Wl b s.2).length:=by simp at zf;omega
  subst yz;repeat(refine s_ ?_;simp[hw])
  refine Qc (sl':=[(0,.yld l),(1,.iptr (Ql a)),(2,.iptr [.i s.1,.i s.2]),(3,.iptr (Ql b)),(5,.sl q 4 0 (Bf (Wl b s.2).length).length),(6,.list ((Wl a s.1).map (W5 s.1))),(7,.list ((Wl b s.2).map (W5 s.2))),(28,.list ((Wl a s.1).map (W5 s.1))),(29,.i (Wl a s.1).length),(30,.i (i+1:Nat))]) ?_ (by simp);exact zv q Y ⟨by omega,gy⟩ (by omega)
 have x0:i=(Wl a s.1).length:=by simp at yp;omega
 subst x0;rw[v1e]at g |-;have zp:(V1 a b s).length<=4198401:=by rw[<-v1e];have h1:=q0w a b s (Wl a s.1).length;have h2:=uF ym.1 yn.1;omega
 have yc:=λ(L:List Stp) (h1:L.Perm (V1 a b s)) (h2:L.Pairwise λx y=>q0n x y=true)=>q1d yi yj ht s h1 h2;generalize V1 a b s=A at *
 repeat(refine s_ ?_;simp)
 refine Q0 rfl rfl (c0m G q A g.arr (by omega)) rfl ?_;rintro _ _ ⟨rfl,A',hp,hs,rfl⟩;have y1:A'=Ic a b s:=yc A' hp (hs.imp λh=>by unfold q0n;rw[h];rfl);have zu:A'.length=A.length:=hp.length_eq;simp;have yd:=Qf g.arr;have y2:=g.ge;refine Wu q (zS yd) ?_;have ye:(A'.map Eo).take A.length=A'.map Eo:=zZ (by simp[zu]);simp[AV.fz,ye,zu];rw[y1];have x1:(Ic a b s).length<=4198401:=by rw[<-y1,zu];exact zp
 have yf:∀j,j<H0.length->(G.set q .dead)[j]? =H0[j]? :=λj hj=>by rw[zH (by omega)];exact g.keep j hj
 obtain⟨E,hE⟩:=q1i yf;have hinv:=z8 [] H0 E h0;rw[<-hE]at hinv;have zb:H0.length<=(G.set q .dead).length:=by rw[hE];simp
 have hL:∀j (h:j<(Ic a b s).length),∃post,Ic a b s=(Ic a b s).take j++(Ic a b s)[j]::post:=λj h=>⟨(Ic a b s).drop (j+1),by rw[<-wQ h,xW]⟩
 clear hE yf;clear hp hs zu y1 ye zp yc g yd y2;generalize G.set q .dead=Y at *;clear G E A A';generalize Ic a b s=L at *;refine Qp (sl':=[(0,.yld l),(5,.list (L.map Eo))]) ?_ (by simp)
 repeat(refine s_ ?_;simp)
 refine Qi (Qc (sl':=[(0,.yld l),(83,.list (L.map Eo)),(84,.i L.length),(85,.i (0:Nat))]) ?_ (by simp));refine Qj (P:=prog) (F:=λ(u:Nat×List AObj)=>⟨[(0,.yld l),(83,.list (L.map Eo)),(84,.i L.length),(85,.i u.1)],u.2⟩)
  (λu=>u.1<=L.length/\Inv (L.take u.1) u.2/\H0.length<=u.2.length) (λu=>L.length - u.1) ?_ (0,Y) ⟨xP _,by simpa using hinv,zb⟩
 clear hinv zb;clear Y;rintro⟨j,G⟩ ⟨hj,gv,yg⟩ ih2;simp only at hj gv yg ih2 |-;repeat(refine s_ ?_;simp)
 refine Qa rfl (λze=>?_) (λzf=>?_)
 ·have z1:j<L.length:=by simpa using ze
  have zr:=wz j (by omega);obtain⟨post,zq⟩:=hL j z1;have x2:L.take (j+1)=L.take j++[L[j]]:=zY z1;have z6:=λG'=>ih2 (j+1,G');simp only[x2]at z6;have zl:(L.map Eo)[j]?=some (Eo L[j]):=by simp[z1]
  have zn:∀hh,(L.map Eo)[j]'hh=Eo L[j]:=λhh=>by simp
  generalize L[j]=e at *;generalize L.take j=pre at *;simp only[Eo]at zl zn
  repeat(refine s_ ?_;simp[zl,zn,z1])
  have yh:=z8 _ G [.vars [.i e.1.ty,.i e.1.num,.i e.2.1,.i e.2.2]] gv;have i1:=hI _ _ yh;have x3:=zc pre e post _ zq yh (by simp;omega);have x4:(G++[AObj.vars [.i e.1.ty,.i e.1.num,.i e.2.1,.i e.2.2]])[G.length]?=some (.vars [.i e.1.ty,.i e.1.num,.i e.2.1,.i e.2.2]):=by rw[zO (by simp)];simp
  generalize G++[AObj.vars [.i e.1.ty,.i e.1.num,.i e.2.1,.i e.2.2]]=Y at *;refine Yv rfl rfl (q:=l) rfl rfl i1 yk yl rfl (λjm K2=>(jm=none/\Inv (pre++[e]) (K2.set l (.lp true none z7 sl' ps asg body))/\∀i cs,H0.length<=i->Y[i]?=some (.vars cs)->(K2.set l (.lp true none z7 sl' ps asg body))[i]?=some (.vars cs))\/∃c,jm=some c/\Done c (K2.set l (.lp false (some c) z7 sl' ps asg body))) ?_ ?_
  ·exact x3
  rintro jm K2 (⟨rfl,hK,x5⟩|⟨c,rfl,hD⟩)
  ·simp;repeat(refine s_ ?_;simp)
   refine Qa rfl (λh=>by cases h) (λ_=>?_);repeat(refine s_ ?_;simp[zr])
   refine Qc (sl':=[(0,.yld l),(83,.list (L.map Eo)),(84,.i L.length),(85,.i (j+1:Nat))]) ?_ (by simp);exact z6 _ ⟨by omega,hK,by have:=Qf (x5 _ _ yg x4);omega⟩ (by omega)
  simp;repeat(refine s_ ?_;simp)
  refine Qa rfl (λ_=>?_) (λh=>by cases h);repeat(refine s_ ?_;simp)
  exact .inr ⟨c,hD⟩
 have x6:j=L.length:=by simp at zf;omega
 subst x6;rw[yR]at gv;repeat(refine s_ ?_;simp)
 exact .inl gv
end
end Go.Abs
namespace Go.Proofs
open Go.Shelf
def Tryz.sortPr_ren:Go.Shelf.Ren:=⟨λ|6=>130|15=>199|14=>198|28=>244|29=>245|20=>236|21=>237|22=>238|23=>239|24=>240|25=>241|26=>242|27=>243|46=>291|47=>292|48=>293|49=>294|50=>295|57=>316|n=>n,λ|22=>41|24=>66|25=>188|3=>3|39=>189|0=>0|53=>255|55=>258|4=>4|46=>291|45=>290|50=>112|5=>5|9=>9|66=>327|70=>331|76=>349|77=>350|n=>n,λ|n=>n⟩
def Tryz.sortPr:Go.Proofs.SlLaysF0.n6 prog Tryz.sortPr_ren:={
 mixed:=by kernel_rfl
 f6:=⟨Tryz.f130.name,by decide,func130.trans (congrArg some (by kernel_rfl))⟩
 f14:=⟨Tryz.f198.name,by decide,func198.trans (congrArg some (by kernel_rfl))⟩
 f15:=func199.trans (congrArg some (by kernel_rfl))
 f20:=⟨Tryz.f236.name,by decide,func236.trans (congrArg some (by kernel_rfl))⟩
 f21:=⟨Tryz.f237.name,by decide,func237.trans (congrArg some (by kernel_rfl))⟩
 f22:=⟨Tryz.f238.name,by decide,func238.trans (congrArg some (by kernel_rfl))⟩
 f23:=⟨Tryz.f239.name,by decide,func239.trans (congrArg some (by kernel_rfl))⟩
 f24:=⟨Tryz.f240.name,by decide,func240.trans (congrArg some (by kernel_rfl))⟩
 f25:=⟨Tryz.f241.name,by decide,func241.trans (congrArg some (by kernel_rfl))⟩
 f26:=⟨Tryz.f242.name,by decide,func242.trans (congrArg some (by kernel_rfl))⟩
 f27:=⟨Tryz.f243.name,by decide,func243.trans (congrArg some (by kernel_rfl))⟩
 f28:=func244.trans (congrArg some (by kernel_rfl))
 f29:=func245.trans (congrArg some (by kernel_rfl))
 f46:=⟨Tryz.f291.name,by decide,func291.trans (congrArg some (by kernel_rfl))⟩
 f47:=func292.trans (congrArg some (by kernel_rfl))
 f48:=func293.trans (congrArg some (by kernel_rfl))
 f49:=⟨Tryz.f294.name,by decide,func294.trans (congrArg some (by kernel_rfl))⟩
 f50:=⟨Tryz.f295.name,by decide,func295.trans (congrArg some (by kernel_rfl))⟩
 f57:=⟨Tryz.f316.name,by decide,func316.trans (congrArg some (by kernel_rfl))⟩
 t0:=underlying0
 a0:=isAgg0
 z0:=sizeOf0
 v0:=zeroValue0
 t3:=underlying3
 a3:=isAgg3
 z3:=sizeOf3
 v3:=zeroValue3
 t4:=underlying4
 a4:=isAgg4
 z4:=sizeOf4
 v4:=zeroValue4
 t5:=underlying5
 a5:=isAgg5
 z5:=sizeOf5
 v5:=zeroValue5
 t9:=underlying9
 a9:=isAgg9
 z9:=sizeOf9
 v9:=zeroValue9
 t22:=underlying41
 a22:=isAgg41
 z22:=sizeOf41
 v22:=zeroValue41
 t25:=underlying188
 a25:=isAgg188
 z25:=sizeOf188
 v25:=zeroValue188
 t39:=underlying189
 a39:=isAgg189
 z39:=sizeOf189
 v39:=zeroValue189
 t45:=underlying290
 a45:=isAgg290
 z45:=sizeOf290
 v45:=zeroValue290
 t46:=underlying291
 a46:=isAgg291
 z46:=sizeOf291
 v46:=zeroValue291
 t50:=underlying112
 a50:=isAgg112
 z50:=sizeOf112
 v50:=zeroValue112
 t53:=underlying255
 a53:=isAgg255
 z53:=sizeOf255
 v53:=zeroValue255
 t55:=underlying258
 a55:=isAgg258
 z55:=sizeOf258
 v55:=zeroValue258
 t66:=underlying327
 a66:=isAgg327
 z66:=sizeOf327
 v66:=zeroValue327
 t70:=underlying331
 a70:=isAgg331
 z70:=sizeOf331
 v70:=zeroValue331
 t76:=underlying349
 a76:=isAgg349
 z76:=sizeOf349
 v76:=zeroValue349
 t77:=underlying350
 a77:=isAgg350
 z77:=sizeOf350
 v77:=zeroValue350 }
end Go.Proofs
namespace Go.Abs
open Go Go.Proofs Go.RowKit
section
open Go.Shelf Go.Lib Go.Sort
def L6{w:World}{I:Nat->Prop}{v:Value}{k:IntKind}{n:Int}(h:PVR w I v (.int k n)):v= .int k n:=by cases h;rfl
def Gc(x:Int×Int):List Value:=[.int .i64 x.1,.int .i64 x.2]
def f2q(x y:Int×Int):ltOf w0u x y=v2s x y:=y0y x y
def j2u{w:World}{I:Nat->Prop}{l:List (Int×Int)}{F:Array Value}(hR:RowW w I 2 (l.map pqr) F):flatK Gc 2 l.toArray=F:=by
 have z1:F.size=l.length * 2:=by have:=hR.size;simpa using this
 refine ext_get! (by simp[z1]) λt ht=>?_;have z6:t<l.length * 2:=by simpa using ht
 rw[get_flatK _ _ _ _ (by simpa using z6)];have hi:t / 2<l.length:=by omega
 rw[getElem!_pos l.toArray _ (by simpa using hi)];have hx:(l.map pqr)[t / 2]?=some (pqr l[t / 2]):=by simp[hi]
 have c0:=L6 (hR.cell _ _ hx 0 _ rfl);have c1:=L6 (hR.cell _ _ hx 1 _ rfl);have e0:l.toArray[t / 2]'(by simpa using hi)=l[t / 2]:=by simp
 rw[e0];have hm:t % 2=0\/t % 2=1:=by omega
 rcases hm with h|h<;>rw[h]
 ·have e1:t / 2 * 2+0=t:=by omega
  rw[e1]at c0;rw[c0];rfl
 have e1:t / 2 * 2+1=t:=by omega
 rw[e1]at c1;rw[c1];rfl
def c0d(H:List AObj)(p:Nat)(l:List (Int×Int))(hp:H[p]?=some (.arr 66 2 (l.map pqr)))(hl:l.length<=100000000):
  FC prog 130 [.sl p 2 0 l.length,.fn (.func 131) [] []] H
   (λr H'=>r= .tup []/\∃l':List (Int×Int),l'.Perm l/\l'.Pairwise (λx y=>v2s y x=false)/\H'=H.set p (.arr 66 2 (l'.map pqr))):=by
 refine(w0b (xs:=l.map pqr) (R9 func130 rfl rfl) (by simp) hp [.func (.func 131) #[] #[]] (λw I m vs a b=>Hv _ w I m _ vs a b) (λz8=>∃l':List (Int×Int),l'.Perm l/\l'.Pairwise (λx y=>v2s y x=false)/\z8=l'.map pqr) ?_ ?_).mono ?_
 ·intro w I b cap F hE hI zc hR hH hb hc;by_cases z6:l=[]
  ·subst z6;refine Calls.mono (AnyF.slices_SortFunc_none Tryz.sortPr (some ⟨b,0,none⟩) cap _ w) ?_;rintro e w' ⟨rfl,rfl⟩;refine⟨rfl,[],F,0,#[],⟨[],.refl _,.nil,rfl⟩,rfl,hR,?_⟩;rw[grow_empty];exact(putRow_self id w' b 0 F hH).symm
  have zd:0<l.length:=uS.2 z6;have eg:∀args w,(callFunc 131 args).run prog w= .ok (.enter 131 args) w:=enters_of func131 (by kernel_rfl) rfl;have ze:=j2u hR;have zf:HoldsK Gc 2 w b 0 l.toArray:=by unfold HoldsK;rw[ze];exact hH
  have z7:CmpLays prog 131 #[] Gc 2 w0u b 0 l.toArray.size w:=λq os dk hs x y=>by
   have hW:∀c,I c->(sortWorldK Gc 2 w b 0 q dk os).heap[c]? =w.heap[c]? :=λc za=>by have zg:=hI c za;have zh:b≠c:=λe=>zc (e▸za);simp only[sortWorldK,grow,putRowK,putRow,mapBlock,Sort.ahead];rw[yY (by simpa using zg),w_,if_neg zh]
   have zb:∀z:Int×Int,PVR w I (.agg (Gc z).toArray) (pqr z):=λz=>by
    refine .agg _ _ (by simp[Gc]) λi v x' hv z1=>?_
    match i,hv,z1 with
    |0,hv,z1=>simp[Gc]at hv z1;subst hv z1;exact .int _ _
    |1,hv,z1=>simp[Gc]at hv z1;subst hv z1;exact .int _ _
    |k+2,hv,z1=>simp[Gc]at hv
   refine(f1g x y).laid hE hI hW (by simp) λi v x' hv z1=>?_
   match i,hv,z1 with
   |0,hv,z1=>simp at hv z1;subst hv z1;exact zb x
   |1,hv,z1=>simp at hv z1;subst hv z1;exact zb y
  have:=AnyQ.slices_SortFunc Tryz.sortPr 2 isAgg66 sizeOf66 Gc (λ_=>rfl) (λx v hv=>by simp[Gc]at hv;rcases hv with rfl|rfl<;>rfl) w0u c0t 131 #[] b 0 cap l.toArray w eg z7 zf hb (by simp;omega);rw[show(l.toArray).size=l.length by simp]at this;refine Calls.mono this ?_;rintro e w' ⟨rfl,d',n,os,h1,h2,rfl⟩;obtain⟨s1,_,s3⟩:=h1;have hs:d'.toList.length=l.length:=by simpa using s1
  refine⟨rfl,d'.toList.map pqr,flatK Gc 2 d',n,os,⟨d'.toList,?_,?_,rfl⟩,by simp[hs],⟨by simp,λx hx=>?_,λi x hx j y hy=>?_⟩,rfl⟩
  ·rw[show d'.extract 0 l.length=d' by simp[<-hs],show l.toArray.extract 0 l.length=l.toArray by simp]at s3;simpa using s3
  ·refine yU.2 λi j hi hj zi=>?_;have:=h2 i j (xP _) zi (by omega);rw[f2q,getElem!_pos d' i (by simpa using hi),getElem!_pos d' j (by simpa using hj)]at this;simpa using this
  ·obtain⟨z,_,rfl⟩:=zU.1 hx;rfl
  rw[z_]at hx;obtain⟨z,hz,rfl⟩:=zX.1 hx;obtain⟨hi,rfl⟩:=zE.1 hz;have hj:j<2:=(zE.1 hy).1;have zj:i<d'.size:=by simpa using hi
  rw[get_flatK _ _ _ _ (by omega)];rw[show(i * 2+j) / 2=i by omega,show(i * 2+j) % 2=j by omega];rw[getElem!_pos d' i zj]
  match j,hj,hy with
  |0,_,hy=>simp[pqr,AV.cells]at hy;subst hy;exact .int _ _
  |1,_,hy=>simp[pqr,AV.cells]at hy;subst hy;exact .int _ _
 ·rintro h;have z6:l=[]:=by
   cases l with
   |nil=>rfl
   |cons x r=>simp at h
  subst z6;exact⟨⟨[],.refl _,.nil,rfl⟩,λw=>AnyF.slices_SortFunc_none Tryz.sortPr none 0 _ w⟩
 rintro r H' ⟨rfl,z8,⟨l',h1,h2,rfl⟩,rfl⟩;exact⟨rfl,l',h1,h2,rfl⟩
end
section
open Go.Maps
structure ShI (a b:Aut) (L:List PQ) (V:List Vst) (q N i:Nat) (H:List AObj):Prop where
 ok:VOk V L
 di:DInv a b L
 h0:H[0]?=some (.vars (Ql a))
 h1:H[1]?=some (.vars (Ql b))
 h2:H[2]?=some (stQ (L.map (·.1)))
 h3:H[3]?=some (.vars [.mref 2])
 h5:H[5]?=some (.vars [.sl q 6 0 V.length])
 hq:H[q]?=some (.arr 176 6 (V.map D6))
 hN:H[N]?=some (.vars [.i i])
 nl:5<N
def ShI.app{a b:Aut}{L:List PQ}{V:List Vst}{q N i:Nat}{H:List AObj}(h:ShI a b L V q N i H)(E:List AObj):ShI a b L V q N i (H++E):=
 ⟨h.ok,h.di,Qb h.h0 _,Qb h.h1 _,Qb h.h2 _,Qb h.h3 _,Qb h.h5 _,Qb h.hq _,Qb h.hN _,h.nl⟩
def ShI.setx{a b:Aut}{L:List PQ}{V:List Vst}{q N i:Nat}{H:List AObj}(h:ShI a b L V q N i H){j:Nat}(hj:5<j)(hq:j≠q)(hN:j≠N)(x:AObj):ShI a b L V q N i (H.set j x):=
 ⟨h.ok,h.di,Qd (by omega) h.h0 _,Qd (by omega) h.h1 _,Qd (by omega) h.h2 _,Qd (by omega) h.h3 _,Qd (by omega) h.h5 _,Qd hq h.hq _,Qd hN h.hN _,h.nl⟩
def ShI.cell{a b:Aut}{L:List PQ}{V:List Vst}{q N i:Nat}{H:List AObj}(h:ShI a b L V q N i H)(j:Nat):ShI a b L V q H.length j (H++[.vars [.i j]]):=
 ⟨h.ok,h.di,Qb h.h0 _,Qb h.h1 _,Qb h.h2 _,Qb h.h3 _,Qb h.h5 _,Qb h.hq _,by rw[zO (by simp)];simp,by have:=Qf h.hN;have:=h.nl;omega⟩
def ShI.qne{a b:Aut}{L:List PQ}{V:List Vst}{q N i:Nat}{H:List AObj}(h:ShI a b L V q N i H):q≠0/\q≠1/\q≠2/\q≠3/\q≠5/\q≠N:=by
 have hq:=h.hq;refine⟨λe=>?_,λe=>?_,λe=>?_,λe=>?_,λe=>?_,λe=>?_⟩
 ·rw[e,h.h0]at hq;simp at hq
 ·rw[e,h.h1]at hq;simp at hq
 ·rw[e,h.h2]at hq;simp[stQ]at hq
 ·rw[e,h.h3]at hq;simp at hq
 ·rw[e,h.h5]at hq;simp at hq
 rw[e,h.hN]at hq;simp at hq
def ShI.push {a b:Aut} {L:List PQ} {V:List Vst} {q N n:Nat} {H:List AObj} (h:ShI a b L V q N n H) {e:PQ} (hn:L[n]?=some e) {t:Int×Int} {x:Sy} (ht:inD a t.1/\inD b t.2) (z1:t∉L.map (·.1)) {Z:List AObj} {q':Nat} (hlen:H.length<=Z.length)
  (e2:Z[2]?=some (stQ (L.map (·.1)++[t]))) (e5:Z[5]?=some (.vars [.sl q' 6 0 (V.length+1)])) (eq:Z[q']?=some (.arr 176 6 (V.map D6++[D6 ⟨t,n,x,false⟩]))) (ek:∀j,j≠2->j≠5->j≠q->j<H.length->Z[j]? =H[j]?):
  ShI a b (L++[(t,e.2++[x])]) (V++[⟨t,n,x,false⟩]) q' N n Z:=by
 obtain⟨n0,n1,n2,n3,n5,nN⟩:=h.qne;have z6:=h.nl;refine⟨h.ok.push hn t x,h.di.add ht z1,(ek 0 (by decide) (by decide) (Ne.symm n0) (Qf h.h0)).trans h.h0,(ek 1 (by decide) (by decide) (Ne.symm n1) (Qf h.h1)).trans h.h1,by rw[e2];simp,(ek 3 (by decide) (by decide) (Ne.symm n3) (Qf h.h3)).trans h.h3,by rw[e5];simp,by rw[eq];simp,(ek N (by omega) (by omega) (Ne.symm nN) (Qf h.hN)).trans h.hN,h.nl⟩
def y07{a b:Aut}(ha:OkA a)(hb:OkA b){s:Int×Int}(h:inD a s.1/\inD b s.2):okQ s:=by
 have h1:=ha.fin;have h2:=hb.fin;unfold okQ;obtain⟨h3|h3,h4|h4⟩:=h
 ·omega
 ·have:=h4.1;have:=h4.2;omega
 ·have:=h3.1;have:=h3.2;omega
 have:=h3.1;have:=h3.2;have:=h4.1;have:=h4.2;omega
def DInv.okQ{a b:Aut}(ha:OkA a)(hb:OkA b){L:List PQ}(h:DInv a b L):∀s∈L.map (·.1),okQ s:=λs hs=>by obtain⟨e,he,rfl⟩:=zU.1 hs;exact y07 ha hb (h.rng e he)
def Jr(w:List Sy):∀(es:List (Sy×(Int×Int))) (L:List PQ),∃E,Ez L w es=L++E
 |[],L=>⟨[],by simp[Ez]⟩
 |e::es,L=>by
  obtain⟨E,hE⟩:=Jr w es (g07 L e.2 (w++[e.1]));have h:Ez L w (e::es)=Ez (g07 L e.2 (w++[e.1])) w es:=rfl;rw[h,hE];unfold g07;split
  ·exact⟨E,rfl⟩
  exact⟨_,by rw[xU]⟩
def z0h(L:List PQ)(w:List Sy)(es:List (Sy×(Int×Int)))(e:Sy×(Int×Int)):Ez L w (es++[e])=g07 (Ez L w es) e.2 (w++[e.1]):=by unfold Ez;rw[List.foldl_append];rfl
def c0a(r:Option (List Sy)×List PQ):AV:=match r.1 with
 |some w=> .tup [LSy w,.bool true,LQp []]
 |none=> .tup [LSy [],.bool false,LQp (Y0 (r.2.map (·.1)))]
def y2g{x y:Int×Int}(h:v2s y x=false):pLe x y=true:=by unfold v2s at h;unfold pLe;rw[<-uI]at h;simp only[vB,yJ,decide_eq_true_eq]at *;omega
def f1m(a b:Aut)(wn:Bool->Bool->Bool):G7 a b wn=Zl (Nn wn a b) (Ic a b) ((a.fin.length+1) * (b.fin.length+1)+1) 0 [((0,0),[])]:=rfl
attribute [local irreducible] Ic Zl Ez w02 stQ Y0
def Zq(a b:Aut)(ha:Dta a)(hb:Dta b)(ht:b.types=a.types)(wn:Bool->Bool->Bool)(f:Nat)(zt:∀x y,PC prog f [.bool x,.bool y] (λr=>r= .bool (wn x y))):PC prog 67 [encA a,encA b,.fn (.func f) [] []] (λr=>r=c0a (G7 a b wn)):=by
 refine pcB func67 results67 ntmps67 ?_;simp only[Qe];simp only[encA];have y7:=ha.ok.fin;have y8:=hb.ok.fin;rw[f1m];obtain⟨R,hR⟩:∃R,Zl (Nn wn a b) (Ic a b) ((a.fin.length+1) * (b.fin.length+1)+1) 0 [((0,0),[])]=R:=⟨_,rfl⟩
 rw[hR];obtain⟨M,hM⟩:∃M,M=(a.fin.length+1) * (b.fin.length+1):=⟨_,rfl⟩
 have yx:M<=66049:=by rw[hM];exact yW (uF (se y7.2) (se y8.2)) (by decide)
 rw[<-hM]at hR;have hlen:=λL (h:DInv a b L)=>h.len;rw[<-hM]at hlen;repeat(refine s_ ?_;simp)
 refine W8 rfl rfl rfl ?_;simp;refine u0t rfl rfl rfl rfl (s:=(0,0)) rfl rfl rfl (by unfold okQ;decide) ?_;simp;repeat(refine s_ ?_;simp)
 have zu:ShI a b [((0,0),[])] [⟨(0,0),0,⟨0,0⟩,true⟩] 4 6 0 [.vars (Ql a),.vars (Ql b),stQ [(0,0)],.vars [.mref 2],.arr 176 6 [.agg [.i 0,.i 0,.i 0,.i 0,.i 0,.bool true]],.vars [.sl 4 6 0 1],.vars [.i 0]]:=
  ⟨VOk.start,DInv.start ha.ok hb.ok,rfl,rfl,rfl,rfl,rfl,rfl,rfl,by decide⟩
 have zv:∀s,Nn wn a b s=wn (w02 a s.1) (w02 b s.2):=λ_=>rfl;have zw:=λs e h=>z1n ha hb ht (s:=s) (e:=e) h;refine Qi (Qc (sl':=[(2,.fn (.func f) [] []),(3,.vptr 0 0),(4,.vptr 1 0),(9,.vptr 3 0),(10,.vptr 5 0),(11,.vptr 6 0)]) ?_ (by simp));refine Qj (P:=prog) (F:=λ(u:Nat×Nat×Nat×List PQ×List Vst×List AObj)=>⟨[(2,.fn (.func f) [] []),(3,.vptr 0 0),(4,.vptr 1 0),(9,.vptr 3 0),(10,.vptr 5 0),(11,.vptr u.2.1 0)],u.2.2.2.2.2⟩)
  (λu=>u.1<=u.2.2.2.1.length/\ShI a b u.2.2.2.1 u.2.2.2.2.1 u.2.2.1 u.2.1 u.1 u.2.2.2.2.2/\Zl (Nn wn a b) (Ic a b) (M+1 - u.1) u.1 u.2.2.2.1=R) (λu=>M+1 - u.1) ?_ (0,6,4,_,_,_) ⟨by simp,zu,hR⟩
 clear hR zu;rintro⟨i,N,q,L,V,H⟩ ⟨hi,hS,hB⟩ ih;simp only at hi hS hB ih |-;have yy:=hlen L hS.di;have yz:=hS.ok.len;have x0:=hS.nl;have y9:=hS.qne;repeat(refine s_ ?_;simp[hS.hN,hS.h5])
 refine Qa rfl (λya=>?_) (λyb=>?_)
 ·have ze:i<V.length:=by simpa using ya
  have hw:=wz i (by omega);obtain⟨v,hv⟩:∃v,V[i]?=some v:=⟨_,zP ze⟩
  obtain⟨⟨s,w⟩,he⟩:∃e,L[i]?=some e:=⟨_,zP (by omega)⟩
  have zx:=hS.ok.key i v _ hv he;have zj:=hS.di.rng _ (zL he);simp only at zx zj;have cW:=k10 V L hS.ok i _ he (by omega);rw[show M+1 - i=(M - i)+1 by omega,c01 he,zv]at hB;have zc:(V.map D6)[i]?=some (D6 v):=by rw[z_,hv];rfl
  have zf:∀hh,(V.map D6)[i]'hh=D6 v:=λhh=>(yI hh).2 zc;simp only[D6,zx]at zc zf;have cFa:=N3 a s.1 zj.1;have cFb:=N3 b s.2 zj.2;have cWn:=zt (w02 a s.1) (w02 b s.2);have cLe:=Ng a b s;simp only[encA,pqr]at cFa cFb cLe;generalize wn (w02 a s.1) (w02 b s.2)=wv at *
  repeat(refine s_ ?_;simp[hS.hN,hS.h5,hS.hq,zc,zf,ze])
  have z8:=hS.app [.vars [.i s.1,.i s.2]];have zd:(H++[AObj.vars [.i s.1,.i s.2]])[H.length]?=some (.vars [.i s.1,.i s.2]):=by rw[zO (by simp)];simp
  have x1:=Qf hS.hN;clear hS;generalize H++[AObj.vars [.i s.1,.i s.2]]=Y at *;generalize H.length=x at *;clear H
  have y0:=z8.h0;have y1:=z8.h1;refine Qn tOk mixed [] (.val 0 (.val 1 (.val 2 (.val 3 (.val 5 (.val 6 (.val 7 (.one 4 (.one 8 (.one 9 (.done))))))))))) rfl (by kernel_rfl) ?_;simp[y0,y1,zd];refine pcL (cFa) ?_;simp[y0,y1,zd];refine pcL (cFb) ?_;simp[y0,y1,zd];refine pcL (cWn) ?_;simp[y0,y1,zd];refine Qa rfl (λhd=>?_) (λhd=>?_)
  ·rw[if_pos hd]at hB;subst hB;have y5:=z8.h5;have yN:=z8.hN;repeat(refine s_ ?_;simp[y5,yN])
   refine X7 q z8.hq 5 y5 (Ne.symm y9.2.2.2.2.1) rfl ?_;simp[AObj.fz,AV.fz];rw[zZ (by simp)];refine pcL (cW) ?_;simp;repeat(refine s_ ?_;simp)
   rfl
  rw[if_neg (by rw[hd];simp)]at hB;repeat(refine s_ ?_;simp[y0,y1,zd])
  refine pcL (cLe) ?_;simp;refine Qp (sl':=[(2,.fn (.func f) [] []),(3,.vptr 0 0),(4,.vptr 1 0),(9,.vptr 3 0),(10,.vptr 5 0),(11,.vptr N 0),(12,.vptr x 0),(49,.fn (.func 190) [] [.iptr (Ql a),.iptr [.i s.1,.i s.2],.iptr (Ql b)])]) ?_ (by simp);have x3:=Qf z8.hN;have x4:=Qf z8.hq;have yc:=Qf zd;repeat(refine s_ ?_;simp)
  refine Ej rfl (Rf:=λ_ H'=>∃q' V',ShI a b (Ez L w (Ic a b s)) V' q' N i H'/\Y.length<=H'.length/\∃sl' ps' a' b',H'[Y.length]?=some (.lp true none 84 sl' ps' a' b')) ?_ ?_
  ·simp;refine F3 λH1 zi=>?_;have fS:ShI a b L V q N i H1:=by rw[zi];exact z8.app _
   have fl:H1.length=Y.length+1:=by rw[zi];simp
   have fq:=congrArg (λh:List AObj=>h[Y.length]?) zi;simp at fq;clear zi;refine FC.mono (K8 a b ha.ok hb.ok ht ha hb s Y.length (by rfl) (by rfl)
    (λpre K=>∃q' V',ShI a b (Ez L w pre) V' q' N i K/\K[Y.length]? =H1[Y.length]?) (λ_ _=>False) H1 (λpre K ⟨q',V',h1,h2⟩=>h2.trans fq)
    (λpre K E ⟨q',V',h1,h2⟩=>⟨q',V',h1.app E,by rw[<-h2,zI (Qf (h2.trans fq))]⟩) ?_ ⟨q,V,by rw[j0i];exact fS,rfl⟩) ?_
   ·rintro pre e post K heq ⟨q',V',zk,yd⟩ hlen1;simp[Rz];have h8:=yd.trans fq;have z1:Y.length≠q':=λe=>by have:=zk.hq;rw[<-e,h8]at this;simp at this
    have z6:Y.length≠N:=λe=>by have:=zk.hN;rw[<-e,h8]at this;simp at this
    have hd:=zk.setx (j:=Y.length) (by omega) z1 z6 .dead;have d6:=Qg h8 .dead;have dl:(K.set Y.length .dead).length=K.length:=by simp
    have zl:∀j,j≠Y.length->(K.set Y.length .dead)[j]? =K[j]? :=λj hj=>by rw[zH (Ne.symm hj)]
    generalize K.set Y.length .dead=Z at *
    have zm:=zw s e (by rw[heq];simp);obtain⟨E0,ye⟩:=Jr w pre L;have yf:(Ez L w pre)[i]?=some (s,w):=by rw[ye,zI (zE.1 he).1];exact he
    have zn:=z0h L w pre e;have zo:=hlen _ hd.di;have yg:=hd.ok.len;have zg:=hd.di.okQ ha.ok hb.ok;have za:=y07 ha.ok hb.ok zm;generalize Ez L w pre=L2 at *;rw[zn]
    obtain⟨⟨ty,num⟩,t⟩:=e;simp only[Eo];simp only at zm za;have zy:∀E,ShI a b L2 V' q' N i (Z++E):=λE=>hd.app E;have z3:=λE=>(zy E).h3;have z2:=λE=>(zy E).h2;repeat(refine s_ ?_;simp[z3])
    refine q04 rfl rfl rfl rfl (s:=t) rfl (z2 _) zg za ?_;simp;repeat(refine s_ ?_;simp)
    by_cases hm:t∈L2.map (·.1)
    ·have hA:g07 L2 t (w++[⟨ty,num⟩])=L2:=if_pos hm;rw[hA];refine Qa rfl (λh=>by rw[decide_eq_true hm]at h;cases h) (λ_=>?_);repeat(refine s_ ?_;simp)
     refine⟨Qb d6 _,rfl,⟨⟨q',V',(hd.app _).setx (by omega) z1 z6 _⟩,by rw[fq];exact Qg (Qb d6 _) _⟩,λj cs hj hc=>?_⟩;have zb:j≠Y.length:=by omega
     exact Qd (Ne.symm zb) (Qb ((zl j zb).trans hc) _) _
    have hA:g07 L2 t (w++[⟨ty,num⟩])=L2++[(t,w++[⟨ty,num⟩])]:=if_neg hm;rw[hA];refine Qa rfl (λ_=>?_) (λh=>by rw[decide_eq_false hm]at h;cases h);repeat(refine s_ ?_;simp[z3])
    refine Zo rfl rfl rfl rfl (s:=t) rfl rfl (z2 _) zg za hm ?_;simp;refine Wb λW hW=>?_;have x7:=Qf hd.h2;have yh:=Qf hd.h5;have yi:=Qf hd.hN;have yj:=Qf hd.hq;obtain⟨m0,m1,m2,m3,m5,mN⟩:=hd.qne;have w2:W[2]?=some (stQ (L2.map (·.1)++[t])):=by rw[hW,zS (by simp;omega)]
    have wt:W[Z.length]?=some (.vars [.i ty,.i num,.i t.1,.i t.2]):=by rw[hW,zH (by omega),zO (by simp)];simp
    have wk:∀j,j≠2->j<Z.length->W[j]? =Z[j]? :=λj h1 h2=>by rw[hW,zH (Ne.symm h1),zI h2]
    have wl:W.length=Z.length+1:=by rw[hW];simp
    have w5:=(wk 5 (by decide) yh).trans hd.h5;have wN:=(wk N (by omega) yi).trans hd.hN;have wq:=(wk q' m2 yj).trans hd.hq;have w6:=(wk Y.length (by omega) (Qf d6)).trans d6;clear hW;have zz:(V'.map D6).length=V'.length:=by simp
    repeat(refine s_ ?_;simp[w5,wt,wN])
    have w5s:∀E,(W.set q' .dead++E)[5]?=some (.vars [.sl q' 6 0 V'.length]):=λE=>Qb (Qd m5 w5 _) _;refine apS d2p d2r ?_;simp[Qb wq,Qh wq,zz,w5s];refine⟨by simp[W1,Qb wq,Qh wq,zz,w5s]<;>omega,?_⟩;repeat(refine s_ ?_;simp)
    obtain⟨X,hX⟩:∃X,X=(W.set q' .dead++[AObj.arr 176 6 [.agg [.i t.1,.i t.2,.i i,.i ty,.i num,.bool false]],AObj.arr 176 6 (V'.map D6++[.agg [.i t.1,.i t.2,.i i,.i ty,.i num,.bool false]])]).set 5 (.vars [.sl (W.length+1) 6 0 (V'.length+1)]):=⟨_,rfl⟩
    rw[<-hX];have x8:W.length+1<X.length:=by rw[hX];simp
    have yk:Z.length<=X.length:=by omega
    have x2:X[2]?=some (stQ (L2.map (·.1)++[t])):=by rw[hX];exact Qd (by decide) (Qb (Qd m2 w2 _) _) _
    have x5:X[5]?=some (.vars [.sl (W.length+1) 6 0 (V'.length+1)]):=by rw[hX];exact Qg (w5s _) _
    have xq:X[W.length+1]?=some (.arr 176 6 (V'.map D6++[D6 ⟨t,i,⟨ty,num⟩,false⟩])):=by rw[hX,zH (by omega),zO (by simp)];simp[D6]
    have xk:∀j,j≠2->j≠5->j≠q'->j<Z.length->X[j]? =Z[j]? :=λj h1 h2 h3 h4=>by rw[hX,zH (Ne.symm h2),zI (by simp;omega),zH (Ne.symm h3)];exact wk j h1 h4
    clear hX;have zh:=hd.push yf zm hm (x:=⟨ty,num⟩) yk x2 x5 xq xk;have x6:X[Y.length]?=some .dead:=(xk _ (by omega) (by omega) z1 (Qf d6)).trans d6;refine⟨x6,rfl,⟨⟨W.length+1,V'++[⟨t,i,⟨ty,num⟩,false⟩],zh.setx (by omega) (by have:=Qf d6;omega) z6 _⟩,by rw[fq];exact Qg x6 _⟩,λj cs hj hc=>?_⟩;have zb:j≠Y.length:=by omega
    have yl:j≠q':=λe=>by rw[e]at hc zb;rw[zl _ zb |>.symm,hd.hq]at hc;cases hc
    exact Qd (Ne.symm zb) ((xk j (by omega) (by omega) yl (by have:=Qf hc;omega)).trans ((zl j zb).trans hc)) _
   rintro _ H' (⟨q',V',h1,h2⟩|⟨c,h⟩)
   ·exact⟨⟨q',V',h1⟩,Nat.le_of_lt (Qf (h2.trans fq)),_,_,_,_,h2.trans fq⟩
   exact h.elim
  rintro res H' ⟨q',V',h1,h2,sl',ps',a',b',h3⟩;refine⟨true,none,84,sl',ps',a',b',by simpa using h3,?_⟩;simp;have z1:Y.length≠q':=λe=>by have:=h1.hq;rw[<-e,h3]at this;simp at this
  have z6:Y.length≠N:=λe=>by have:=h1.hN;rw[<-e,h3]at this;simp at this
  have zp:=h1.setx (j:=Y.length) (by omega) z1 z6 .dead;obtain⟨E,hE⟩:=Jr w (Ic a b s) L;have x9:i<(Ez L w (Ic a b s)).length:=by rw[hE,yP];omega
  clear h1 h3;generalize H'.set Y.length .dead=Z at *;generalize Ez L w (Ic a b s)=L2 at *
  have dN:=zp.hN;have zo:=hlen L2 zp.di;repeat(refine s_ ?_;simp[dN,hw])
  refine Qc (sl':=[(2,.fn (.func f) [] []),(3,.vptr 0 0),(4,.vptr 1 0),(9,.vptr 3 0),(10,.vptr 5 0),(11,.vptr Z.length 0)]) ?_ (by simp);exact ih (i+1,Z.length,q',L2,V',_) ⟨by simp only;omega,zp.cell (i+1),by rw[show M+1 - (i+1)=M - i by omega];exact hB⟩ (by simp only;omega)
 have ym:L.length<=i:=by simp at yb;omega
 rw[x18 (by rw[List.getElem?_eq_none_iff];omega)]at hB;subst hB;rw[show c0a (none,L)= .tup [.list [],.bool false,LQp (Y0 (L.map (·.1)))] from rfl];have yn:=hS.di.nd;have y2:=hS.ok.pairs;have yo:=hS.h5;have yp:=hS.hq;clear ih zw zv hlen zt;refine Qp (sl':=[(10,.vptr 5 0)]) ?_ (by simp);repeat(refine s_ ?_;simp[yo])
 refine Q5 14 66 2 rfl ?_;simp;have hst:=SL.start H 66 2;refine Qi (Qc (sl':=[(14,.sl H.length 2 0 (0:Nat)),(69,.sl q 6 0 V.length),(70,.i V.length),(71,.i (0:Nat))]) ?_ (by simp));refine Qj (P:=prog) (F:=λ(u:Nat×Nat×List AObj)=>⟨[(14,.sl u.2.1 2 0 u.1),(69,.sl q 6 0 V.length),(70,.i V.length),(71,.i u.1)],u.2.2⟩)
  (λu=>u.1<=V.length/\SL H u.2.2 u.2.1 66 2 (((V.take u.1).map (·.s)).map pqr)) (λu=>V.length - u.1) ?_ (0,H.length,_) ⟨xP _,by simpa using hst⟩
 rintro⟨j,p,G⟩ ⟨hj,g⟩ ih;simp only at hj g ih |-;repeat(refine s_ ?_;simp)
 refine Qa rfl (λzq=>?_) (λzr=>?_)
 ·have z7:j<V.length:=by simpa using zq
  have yq:=wz j (by omega);have y3:(V.take (j+1)).map (·.s)=(V.take j).map (·.s)++[V[j].s]:=by rw[zY z7,xA];rfl
  have yr:((V.take j).map (·.s)).length=j:=by simp;omega
  have y4:=λq' G'=>ih (j+1,q',G');simp only[y3]at y4;have zc:(V.map D6)[j]?=some (D6 V[j]):=by simp[z7]
  have zf:∀hh,(V.map D6)[j]'hh=D6 V[j]:=λhh=>by simp
  clear y3;generalize (V.take j).map (·.s)=acc at *
  generalize V[j]=v at *
  have gq:=g.kp yp;have y6:(acc.map pqr).length=j:=by simp[yr]
  simp only[D6]at zc zf;repeat(refine s_ ?_;simp[gq,zc,zf,z7])
  refine apS T41 T66 ?_;simp[Qb g.arr,Qh g.arr,y6];refine⟨by simp[W1,Qb g.arr,Qh g.arr,y6]<;>omega,?_⟩;repeat(refine s_ ?_;simp[yq])
  refine Qc (sl':=[(14,.sl (G.length+2) 2 0 (j+1)),(69,.sl q 6 0 V.length),(70,.i V.length),(71,.i (j+1:Nat))]) ?_ (by simp);have:=y4 (G.length+2) _ ⟨by omega,g.put [AObj.vars [.i v.s.1,.i v.s.2,.i v.fr,.i v.on.ty,.i v.on.num,.bool v.fst],AObj.arr 66 2 [pqr v.s]] ((acc++[v.s]).map pqr) rfl⟩ (by omega);simpa[pqr]using this
 have yt:j=V.length:=by simp at zr;omega
 subst yt;rw[yR,y2]at g;have yu:(L.map (·.1)).length=V.length:=by rw[<-y2];simp
 generalize L.map (·.1)=K at *
 rw[<-yu];repeat(refine s_ ?_;simp)
 refine Q0 rfl rfl (c0d G p K g.arr (by omega)) rfl ?_;rintro _ _ ⟨rfl,K',hp,hs,rfl⟩;have yv:K'=Y0 K:=j05 yn hp (hs.imp λh=>y2g h);have yw:∀z,(G.set p z)[p]?=some z:=λz=>Qg g.arr z;have xa:K'.length=K.length:=hp.length_eq;simp;repeat(refine s_ ?_;simp[yw])
 rw[if_pos (by omega),zZ (by simp;omega),yv];rfl
end
section
open Go.Maps
def k1x(x y:Bool):PC prog 70 [.bool x,.bool y] (λr=>r= .bool (neB x y)):=by
 refine pcB func70 results70 ntmps70 ?_;simp only[Qe];repeat(refine s_ ?_;simp)
 cases x<;>cases y<;>rfl
def u1l(x y:Bool):PC prog 68 [.bool x,.bool y] (λr=>r= .bool (neB x y)):=by
 refine pcB func68 results68 ntmps68 ?_;simp only[Qe];repeat(refine s_ ?_;simp)
 cases x<;>cases y<;>rfl
def z2y(r:EqC×Int):AV:= .tup [c1d r.1,.i r.2]
def q1x(r:(List Sy×Bool)×Int):AV:= .tup [LSy r.1.1,.bool r.1.2,.i r.2]
attribute [local irreducible] Yg G7 Y0 Yj El Ed
def Z5(a b:Aut):PC prog 22 [encA a,encA b] (λr=>r=z2y (k0y a b)):=by
 refine pcB func22 results22 ntmps22 ?_;simp only[Qe];obtain⟨R,hR⟩:∃R,k0y a b=R:=⟨_,rfl⟩
 rw[hR];unfold k0y at hR;have cF:=Lg a b;have z6:Yg a b=0->Dfa a/\Dfa b/\b.types=a.types:=λh=>Pc.1 h;have z7:Yj a b=(G7 a b neB).2.map (·.1):=by unfold Yj;rfl
 rw[z7]at hR;simp only[encA]at cF |-;repeat(refine s_ ?_;simp)
 refine pcL (cF) ?_;simp;repeat(refine s_ ?_;simp)
 refine Qa rfl (λh=>?_) (λh=>?_)
 ·have h':Yg a b≠0:=by simpa using h
  rw[if_pos h']at hR;subst hR;repeat(refine s_ ?_;simp)
  rfl
 have h':Yg a b=0:=by simpa using h
 rw[if_neg (λk=>k h')]at hR;obtain⟨ha,hb,ht⟩:=z6 h';have cS:=Zq a b ⟨ha.ok,ha.det⟩ ⟨hb.ok,hb.det⟩ ht neB 70 k1x;obtain⟨⟨ow,L⟩,hS⟩:∃p,G7 a b neB=p:=⟨_,rfl⟩
 rw[hS]at hR cS;simp only[encA]at cS;cases ow with
 |some w=>
  simp only at hR;subst hR;repeat(refine s_ ?_;simp)
  refine pcL (cS) ?_;simp[c0a];repeat(refine s_ ?_;simp)
  refine Qa rfl (λ_=>?_) (λh=>by simp at h);repeat(refine s_ ?_;simp)
  rfl
 |none=>
  simp only at hR;have z1:=u2r (L.map (·.1));have z8:((Y0 (L.map (·.1))).map pqr).length=(L.map (·.1)).length:=by rw[yL,z1]
  have cS2:PC prog 67 [.agg [.i a.types,.list (a.fin.map .bool),.list (a.mv.map encMv)],.agg [.i b.types,.list (b.fin.map .bool),.list (b.mv.map encMv)],.fn (.func 70) [] []] (λr=>r= .tup [.list [],.bool false,.list ((Y0 (L.map (·.1))).map pqr)]):=cS;generalize L.map (·.1)=K at *
  generalize Y0 K=K2 at *
  repeat(refine s_ ?_;simp)
  refine pcL (cS2) ?_;simp;repeat(refine s_ ?_;simp)
  refine Qa rfl (λh=>by simp at h) (λ_=>?_);repeat(refine s_ ?_;simp[z1])
  refine Qa rfl (λh=>?_) (λh=>?_)
  ·have h1:2048<K.length:=by simp at h;omega
   rw[if_pos h1]at hR;subst hR;repeat(refine s_ ?_;simp)
   rfl
  have h1:¬2048<K.length:=by simp at h;omega
  rw[if_neg h1]at hR;subst hR;repeat(refine s_ ?_;simp)
  rfl
def v2h(a b:Aut):Aut:=if El a b≠0 then Iq else(Ed a).2
def z2u(a b:Aut):Aut:=if El a b≠0 then Iq else if(Ed a).1≠0 then Iq else(Ed b).2
def q21(a b:Aut):PC prog 66 [encA a,encA b] (λr=>r= .tup [encA (v2h a b),encA (z2u a b),.i (R8 a b)]):=by
 refine pcB func66 results66 ntmps66 ?_;simp only[Qe];have cB:=z0y a b;have cD:=Tx a;have cE:=Tx b;simp only[encA]at cB cD cE |-;obtain⟨X,hX⟩:∃X,v2h a b=X:=⟨_,rfl⟩
 obtain⟨Y,hY⟩:∃Y,z2u a b=Y:=⟨_,rfl⟩
 obtain⟨R,hR⟩:∃R,R8 a b=R:=⟨_,rfl⟩
 rw[hX,hY,hR];unfold v2h at hX;unfold z2u at hY;unfold R8 at hR;repeat(refine s_ ?_;simp)
 refine pcL (cB) ?_;simp;repeat(refine s_ ?_;simp)
 refine Qa rfl (λh=>?_) (λh=>?_)
 ·have h':El a b≠0:=by simpa using h
  rw[if_pos h']at hX hY hR;subst hX;subst hY;subst hR;repeat(refine s_ ?_;simp)
  refine Qn tOk mixed [3,4] (.val 0 (.val 2 (.two 1 (.one 3 (.one 4 (.val 5 (.done)))) 3 (.val 1 (.one 4 (.val 5 (.done))))))) rfl (by kernel_rfl) ?_;simp;repeat(refine s_ ?_;simp)
  exact⟨rfl,rfl,rfl⟩
 have h':¬El a b≠0:=by simpa using h
 rw[if_neg h']at hX hY hR;repeat(refine s_ ?_;simp)
 refine pcL (cD) ?_;simp;repeat(refine s_ ?_;simp)
 refine Qa rfl (λh2=>?_) (λh2=>?_)
 ·have z1:(Ed a).1≠0:=by simpa using h2
  rw[if_pos z1]at hY hR;subst hX;subst hY;subst hR;repeat(refine s_ ?_;simp)
  refine Qn tOk mixed [3,4] (.val 0 (.val 2 (.two 1 (.one 3 (.one 4 (.val 5 (.done)))) 3 (.val 1 (.one 4 (.val 5 (.done))))))) rfl (by kernel_rfl) ?_;simp;repeat(refine s_ ?_;simp)
  exact⟨rfl,rfl,rfl⟩
 rw[if_neg (by simpa using h2)]at hY hR;repeat(refine s_ ?_;simp)
 refine pcL (cE) ?_;simp;repeat(refine s_ ?_;simp)
 refine Qn tOk mixed [3,4] (.val 0 (.val 2 (.two 1 (.one 3 (.one 4 (.val 5 (.done)))) 3 (.val 1 (.one 4 (.val 5 (.done))))))) rfl (by kernel_rfl) ?_;simp;repeat(refine s_ ?_;simp)
 subst hX;subst hY;exact⟨⟨rfl,rfl,rfl⟩,⟨rfl,rfl,rfl⟩,hR⟩
def k14{a b:Aut}(h:R8 a b=0):Dta (Ed a).2/\Dta (Ed b).2/\(Ed b).2.types=(Ed a).2.types/\v2h a b=(Ed a).2/\z2u a b=(Ed b).2:=by
 have hb:El a b=0:=by
  by_cases k:El a b=0
  ·exact k
  unfold R8 at h;rw[if_pos k]at h;exact absurd h k
 obtain⟨h1,h2,h3⟩:=Tf.1 hb;obtain⟨d1,d2⟩:=(S5 hb).1 h;obtain⟨_,_,_,_,_,_,o1,o2,o3,_⟩:=Ul h1 (Uj d1);obtain⟨_,_,_,_,_,_,p1,p2,p3,_⟩:=Ul h2 (Uj d2);refine⟨⟨o1,o2⟩,⟨p1,p2⟩,by rw[p3,o3,h3],?_,?_⟩
 ·unfold v2h;rw[if_neg (by simpa using hb)]
 unfold z2u;rw[if_neg (by simpa using hb),if_neg (by simpa using d1)]
attribute [local irreducible] R8 v2h z2u
def Ff(a b:Aut):PC prog 21 [encA a,encA b] (λr=>r=q1x (Vz a b)):=by
 refine pcB func21 results21 ntmps21 ?_;simp only[Qe];obtain⟨R,hR⟩:∃R,Vz a b=R:=⟨_,rfl⟩
 rw[hR];unfold Vz at hR;have cD:=q21 a b;have z1:R8 a b=0->_:=λh=>k14 h;simp only[encA]at cD |-;repeat(refine s_ ?_;simp)
 refine pcL (cD) ?_;simp;repeat(refine s_ ?_;simp)
 refine Qa rfl (λh=>?_) (λh=>?_)
 ·have h':R8 a b≠0:=by simpa using h
  rw[if_pos h']at hR;subst hR;repeat(refine s_ ?_;simp)
  rfl
 have h':R8 a b=0:=by simpa using h
 rw[if_neg (λk=>k h')]at hR;obtain⟨ha,hb,ht,hx,hy⟩:=z1 h';have cS:=Zq (Ed a).2 (Ed b).2 ha hb ht neB 68 u1l;rw[<-hx,<-hy]at cS hR;generalize v2h a b=X at *;generalize z2u a b=Y at *
 obtain⟨⟨ow,L⟩,hS⟩:∃p,G7 X Y neB=p:=⟨_,rfl⟩
 rw[hS]at hR cS;simp only[encA]at cS;cases ow with
 |some w=>
  simp only at hR;subst hR;repeat(refine s_ ?_;simp)
  refine pcL (cS) ?_;simp[c0a];repeat(refine s_ ?_;simp)
  rfl
 |none=>
  simp only at hR;subst hR;repeat(refine s_ ?_;simp)
  refine pcL (cS) ?_;simp[c0a];repeat(refine s_ ?_;simp)
  rfl
end
section
open Go.Maps
def y0i(a b:Aut)(x:EqC):P0 a b x=if x.verdict≠1/\x.verdict≠2 then 1 else if(x.verdict=1/\0<x.word.length)\/(x.verdict=2/\0<x.pairs.length)then 3 else k19 a b x:=by
 unfold P0 k19
 congr
def u18{a b:Aut}{x:EqC}(h:k19 a b x=0):x.pairs.length<=2048/\x.word.length<=4096/\(∀s∈x.pairs,inS a s.1/\inS b s.2)/\M4 a.types x.word=0:=by
 unfold k19 at h;by_cases h1:2048<x.pairs.length\/4096<x.word.length
 ·rw[if_pos h1]at h;cases h
 rw[if_neg h1]at h;by_cases h2:x.pairs.all (λs=>decide (inS a s.1/\inS b s.2))=false
 ·rw[if_pos h2]at h;cases h
 rw[if_neg h2]at h;rw[Bool.not_eq_false,yE]at h2;exact⟨by omega,by omega,λs hs=>by simpa using h2 s hs,h⟩
attribute [local irreducible] Yg k19 N8 Ro
end
section
open Go.Maps
def Sx(a:Aut)(n:Int):PC prog 135 [encA a,.i n] (λr=>r= .bool (decide (inS a n))):=by
 refine pcB func135 results135 ntmps135 ?_;simp only[Qe];simp only[encA];refine Wf 0 1 rfl rfl (λhl=>?_);rw[yL]at hl;unfold inS;rcases f1t a.fin.length n with⟨c1,c2⟩|⟨c1,c2,c3⟩|⟨c1,c2,c3⟩
 ·have e1:decide (0<=n)=false:=by simpa using c1
  repeat(refine s_ ?_;simp[e1])
  exact decide_eq_false c2
 ·have e1:decide (0<=n)=true:=by simpa using c1
  have e2:decide (n<(a.fin.length:Int))=false:=by simpa using c2
  repeat(refine s_ ?_;simp[e1,e2])
  exact decide_eq_false c3
 have e1:decide (0<=n)=true:=by simpa using c1
 have e2:decide (n<(a.fin.length:Int))=true:=by simpa using c2
 repeat(refine s_ ?_;simp[e1,e2])
 exact decide_eq_true c3
def Fk(a b:Aut)(p q:Int):decide (inS a p/\inS b q)=(decide (inS a p) && decide (inS b q)):=by rw[wB,yJ,decide_eq_true_eq,decide_eq_true_eq,decide_eq_true_eq]
attribute [local irreducible] Ky Wi V8 inS
def d0f(a b:Aut)(x:EqC)(hT:1<=a.types/\a.types<=16):PC prog 71 [encA a,encA b,c1d x] (λr=>r= .i (P0 a b x)):=by
 refine pcB func71 results71 ntmps71 ?_;simp only[Qe];simp only[encA,c1d];refine Wf 2 1 rfl rfl (λzk=>?_);refine Wf 2 2 rfl rfl (λzl=>?_);rw[yL]at zk zl;obtain⟨v,ps,w⟩:=x;simp only at zk zl |-;obtain⟨R,hR⟩:∃R,P0 a b ⟨v,ps,w⟩=R:=⟨_,rfl⟩
 rw[hR];rw[y0i]at hR;simp only at hR;by_cases hv:v≠1/\v≠2
 ·rw[if_pos hv]at hR;subst hR;have b1:(v != 1)=true:=by simpa using hv.1
  have b2:(v != 2)=true:=by simpa using hv.2
  repeat(refine s_ ?_;simp[b1,b2])
  refine Qa rfl (λ_=>?_) (λh=>by simp at h);repeat(refine s_ ?_;simp)
 rw[if_neg hv]at hR;by_cases hn:(v=1/\0<w.length)\/(v=2/\0<ps.length)
 ·rw[if_pos hn]at hR;subst hR;rcases hn with⟨rfl,h0⟩|⟨rfl,h0⟩
  ·repeat(refine s_ ?_;simp)
   refine Qa rfl (λh=>by simp at h) (λ_=>?_);repeat(refine s_ ?_;simp[h0])
   refine Qa rfl (λ_=>?_) (λh=>by first|(simp at h;done)|(simp at h;omega));repeat(refine s_ ?_;simp)
  repeat(refine s_ ?_;simp)
  refine Qa rfl (λh=>by simp at h) (λ_=>?_);repeat(refine s_ ?_;simp[h0])
  refine Qa rfl (λ_=>?_) (λh=>by first|(simp at h;done)|(simp at h;omega));repeat(refine s_ ?_;simp)
 rw[if_neg hn]at hR;have zm:v=1\/v=2:=by omega
 rcases zm with rfl|rfl
 ·have zn:¬0<w.length:=λh=>hn (.inl ⟨rfl,h⟩);have zo:decide (0<w.length)=false:=decide_eq_false zn;repeat(refine s_ ?_;simp)
  refine Qa rfl (λh=>by simp at h) (λ_=>?_);repeat(refine s_ ?_;simp[zo])
  refine Qa rfl (λh=>by first|(simp at h;done)|(simp at h;omega)) (λ_=>?_);repeat(refine s_ ?_;simp)
  unfold k19 at hR;simp only at hR;by_cases h1:2048<ps.length
  ·rw[if_pos (.inl h1)]at hR;subst hR;have d1:decide ((2048:Int)<ps.length)=true:=by simp;omega
   repeat(refine s_ ?_;simp[d1])
   refine Qa rfl (λ_=>?_) (λh=>by first|(simp at h;done)|(simp at h;omega));repeat(refine s_ ?_;simp)
  have d1:decide ((2048:Int)<ps.length)=false:=by simp;omega
  by_cases h2:4096<w.length
  ·rw[if_pos (.inr h2)]at hR;subst hR;repeat(refine s_ ?_;simp[d1])
   refine Qa rfl (λ_=>?_) (λh=>by first|(simp at h;done)|(simp at h;omega));repeat(refine s_ ?_;simp)
  rw[if_neg (by omega)]at hR;repeat(refine s_ ?_;simp[d1])
  refine Qa rfl (λh=>by first|(simp at h;done)|(simp at h;omega)) (λ_=>?_);repeat(refine s_ ?_;simp)
  refine Qp (sl':=[(3,.vptr 0 0),(4,.vptr 1 0),(5,.vptr 2 0),(7,.fn (.func 135) [] []),(58,LQp ps),(59,.i ps.length),(60,.i (0:Nat))]) ?_ (by simp);refine Qi ?_;refine Qj (P:=prog) (F:=λ(u:Nat×List AObj)=>⟨[(3,.vptr 0 0),(4,.vptr 1 0),(5,.vptr 2 0),(7,.fn (.func 135) [] []),(58,LQp ps),(59,.i ps.length),(60,.i u.1)],u.2⟩)
   (λu=>u.1<=ps.length/\(ps.take u.1).all (λs=>decide (inS a s.1/\inS b s.2))=true/\u.2[0]?=some (.vars (Ql a))/\u.2[1]?=some (.vars (Ql b))/\u.2[2]?=some (.vars [.i 1,LQp ps,LSy w])) (λu=>ps.length - u.1) ?_ (0,_) ⟨by simp,by simp,rfl,rfl,rfl⟩
  rintro⟨n,H⟩ ⟨hn,hI,g0,g1,g2⟩ ih;simp only at hn hI g0 g1 g2 ih |-;repeat(refine s_ ?_;simp)
  refine Qa rfl (λzg=>?_) (λzh=>?_)
  ·have z6:n<ps.length:=by simpa using zg
   have hw:=wz n (by omega);have za:(ps.map pqr)[n]?=some (pqr ps[n]):=by simp[z6]
   have zb:∀hh,(ps.map pqr)[n]'hh=pqr ps[n]:=λhh=>by simp
   have zc:=x05 z6 hI;have z8:=all_false (p:=λs:Int×Int=>decide (inS a s.1/\inS b s.2)) z6;generalize ps[n]=s at *
   obtain⟨p,q⟩:=s;simp only[pqr]at za zb;simp only[Fk]at zc z8;have k0:=Qb g0 [AObj.vars [.i p,.i q]];have k1:=Qb g1 [AObj.vars [.i p,.i q]];have k2:=Qb g2 [AObj.vars [.i p,.i q]];have kx:(H++[AObj.vars [.i p,.i q]])[H.length]?=some (.vars [.i p,.i q]):=by rw[zO (by simp)];simp
   have cA:=Sx a p;have cB:=Sx b q;simp only[encA]at cA cB;refine Uf ?_;simp;refine Rj ?_;refine Te ?_;refine Rj (Rp tOk rfl ?_);simp[za,zb,z6];generalize H++[AObj.vars [AV.i p,AV.i q]]=H1 at *;clear g0 g1 g2;generalize H.length=X at *
   cases hA:decide (inS a p)
   ·rw[hA]at zc z8 cA;simp only[Fk]at hR;rw[if_pos (z8 rfl)]at hR;subst hR;repeat(refine s_ ?_;simp[k0,k1,kx])
    refine pcL (cA) ?_;simp[k0,k1,kx];refine Wg rfl rfl ?_;simp;repeat(refine s_ ?_;simp)
    refine Qa rfl (λ_=>?_) (λh=>by simp at h);repeat(refine s_ ?_;simp)
   rw[hA]at zc z8 cA;cases hB:decide (inS b q)
   ·rw[hB]at z8 cB;simp only[Fk]at hR;rw[if_pos (z8 rfl)]at hR;subst hR;repeat(refine s_ ?_;simp[k0,k1,kx])
    refine pcL (cA) ?_;simp[k0,k1,kx];refine pcL (cB) ?_;simp[k0,k1,kx];repeat(refine s_ ?_;simp)
    refine Qa rfl (λ_=>?_) (λh=>by simp at h);repeat(refine s_ ?_;simp)
   rw[hB]at zc cB;repeat(refine s_ ?_;simp[k0,k1,kx])
   refine pcL (cA) ?_;simp[k0,k1,kx];refine pcL (cB) ?_;simp[k0,k1,kx];repeat(refine s_ ?_;simp)
   refine Qa rfl (λh=>by simp at h) (λ_=>?_);repeat(refine s_ ?_;simp[hw])
   refine Qc (sl':=[(3,.vptr 0 0),(4,.vptr 1 0),(5,.vptr 2 0),(7,.fn (.func 135) [] []),(58,LQp ps),(59,.i ps.length),(60,.i (n+1:Nat))]) ?_ (by simp);exact ih (n+1,H1) ⟨by simp only;omega,by simp only[Fk];exact zc,k0,k1,k2⟩ (by simp only;omega)
  have zd:n=ps.length:=by simp at zh;omega
  subst zd;rw[yR]at hI;rw[hI,if_neg (by simp)]at hR;clear ih;refine Qp (sl':=[(3,.vptr 0 0),(4,.vptr 1 0),(5,.vptr 2 0)]) ?_ (by simp);repeat(refine s_ ?_;simp[g0])
  refine pcL (v0p a.types hT.1 hT.2) ?_;simp;have k2:=Qb g2 [AObj.vars [AV.list (uP encL (Wi a.types.toNat))]];have kp:(H++[AObj.vars [AV.list (uP encL (Wi a.types.toNat))]])[H.length]?=some (.vars [.list ((Wi a.types.toNat).map encL)]):=by rw[zO (by simp)];simp
  generalize H++[AObj.vars [AV.list (uP encL (Wi a.types.toNat))]]=H1 at *;clear g0 g1 g2;generalize H.length=X at *;clear H
  repeat(refine s_ ?_;simp[k2])
  refine Qp (sl':=[(10,.vptr X 0),(86,LSy w),(87,.i w.length),(88,.i (0:Nat))]) ?_ (by simp);refine Qi ?_;refine Qj (P:=prog) (F:=λ(u:Nat×List AObj)=>⟨[(10,.vptr X 0),(86,LSy w),(87,.i w.length),(88,.i u.1)],u.2⟩)
   (λu=>u.1<=w.length/\M4 a.types (w.drop u.1)=R/\u.2[X]?=some (.vars [.list ((Wi a.types.toNat).map encL)])) (λu=>w.length - u.1) ?_ (0,_) ⟨by simp,by simpa using hR,kp⟩
  clear k2 kp hR;rintro⟨j,H⟩ ⟨hj,z7,kp⟩ ih;simp only at hj z7 kp ih |-;repeat(refine s_ ?_;simp)
  refine Qa rfl (λze=>?_) (λzf=>?_)
  ·have z1:j<w.length:=by simpa using ze
   have zi:=wz j (by omega);rw[Ec z1,M4]at z7;have za:(w.map encSy)[j]?=some (encSy w[j]):=by simp[z1]
   have zb:∀hh,(w.map encSy)[j]'hh=encSy w[j]:=λhh=>by simp
   generalize w[j]=y at *
   have cC:=Ya (Wi a.types.toNat) y;rw[Dn a.types hT]at cC;simp only[encSy,encP]at za zb cC;have kq:=Qb kp [AObj.vars [.i y.ty,.i y.num]];have ky:(H++[AObj.vars [.i y.ty,.i y.num]])[H.length]?=some (.vars [.i y.ty,.i y.num]):=by rw[zO (by simp)];simp
   refine Uf ?_;simp;refine Rj ?_;refine Te ?_;refine Rj (Rp tOk rfl ?_);simp[za,zb,z1];generalize H++[AObj.vars [.i y.ty,.i y.num]]=H1 at *;clear kp;generalize H.length=Y at *
   repeat(refine s_ ?_;simp[kq,ky])
   refine pcL (cC) ?_;simp;repeat(refine s_ ?_;simp)
   refine Qa rfl (λh=>?_) (λh=>?_)
   ·rw[if_pos (by simpa using h)]at z7;subst z7;repeat(refine s_ ?_;simp)
   rw[if_neg (by simpa using h)]at z7;repeat(refine s_ ?_;simp[zi])
   refine Qc (sl':=[(10,.vptr X 0),(86,LSy w),(87,.i w.length),(88,.i (j+1:Nat))]) ?_ (by simp);exact ih (j+1,H1) ⟨by simp only;omega,z7,kq⟩ (by simp only;omega)
  have zj:j=w.length:=by simp at zf;omega
  subst zj;rw[x_]at z7;subst z7;repeat(refine s_ ?_;simp)
  rfl
 have zp:¬0<ps.length:=λh=>hn (.inr ⟨rfl,h⟩);have zq:decide (0<ps.length)=false:=decide_eq_false zp;repeat(refine s_ ?_;simp)
 refine Qa rfl (λh=>by simp at h) (λ_=>?_);repeat(refine s_ ?_;simp[zq])
 refine Qa rfl (λh=>by first|(simp at h;done)|(simp at h;omega)) (λ_=>?_);repeat(refine s_ ?_;simp)
 unfold k19 at hR;simp only at hR;by_cases h1:2048<ps.length
 ·rw[if_pos (.inl h1)]at hR;subst hR;have d1:decide ((2048:Int)<ps.length)=true:=by simp;omega
  repeat(refine s_ ?_;simp[d1])
  refine Qa rfl (λ_=>?_) (λh=>by first|(simp at h;done)|(simp at h;omega));repeat(refine s_ ?_;simp)
 have d1:decide ((2048:Int)<ps.length)=false:=by simp;omega
 by_cases h2:4096<w.length
 ·rw[if_pos (.inr h2)]at hR;subst hR;repeat(refine s_ ?_;simp[d1])
  refine Qa rfl (λ_=>?_) (λh=>by first|(simp at h;done)|(simp at h;omega));repeat(refine s_ ?_;simp)
 rw[if_neg (by omega)]at hR;repeat(refine s_ ?_;simp[d1])
 refine Qa rfl (λh=>by first|(simp at h;done)|(simp at h;omega)) (λ_=>?_);repeat(refine s_ ?_;simp)
 refine Qp (sl':=[(3,.vptr 0 0),(4,.vptr 1 0),(5,.vptr 2 0),(7,.fn (.func 135) [] []),(58,LQp ps),(59,.i ps.length),(60,.i (0:Nat))]) ?_ (by simp);refine Qi ?_;refine Qj (P:=prog) (F:=λ(u:Nat×List AObj)=>⟨[(3,.vptr 0 0),(4,.vptr 1 0),(5,.vptr 2 0),(7,.fn (.func 135) [] []),(58,LQp ps),(59,.i ps.length),(60,.i u.1)],u.2⟩)
  (λu=>u.1<=ps.length/\(ps.take u.1).all (λs=>decide (inS a s.1/\inS b s.2))=true/\u.2[0]?=some (.vars (Ql a))/\u.2[1]?=some (.vars (Ql b))/\u.2[2]?=some (.vars [.i 2,LQp ps,LSy w])) (λu=>ps.length - u.1) ?_ (0,_) ⟨by simp,by simp,rfl,rfl,rfl⟩
 rintro⟨n,H⟩ ⟨hn,hI,g0,g1,g2⟩ ih;simp only at hn hI g0 g1 g2 ih |-;repeat(refine s_ ?_;simp)
 refine Qa rfl (λzg=>?_) (λzh=>?_)
 ·have z6:n<ps.length:=by simpa using zg
  have hw:=wz n (by omega);have za:(ps.map pqr)[n]?=some (pqr ps[n]):=by simp[z6]
  have zb:∀hh,(ps.map pqr)[n]'hh=pqr ps[n]:=λhh=>by simp
  have zc:=x05 z6 hI;have z8:=all_false (p:=λs:Int×Int=>decide (inS a s.1/\inS b s.2)) z6;generalize ps[n]=s at *
  obtain⟨p,q⟩:=s;simp only[pqr]at za zb;simp only[Fk]at zc z8;have k0:=Qb g0 [AObj.vars [.i p,.i q]];have k1:=Qb g1 [AObj.vars [.i p,.i q]];have k2:=Qb g2 [AObj.vars [.i p,.i q]];have kx:(H++[AObj.vars [.i p,.i q]])[H.length]?=some (.vars [.i p,.i q]):=by rw[zO (by simp)];simp
  have cA:=Sx a p;have cB:=Sx b q;simp only[encA]at cA cB;refine Uf ?_;simp;refine Rj ?_;refine Te ?_;refine Rj (Rp tOk rfl ?_);simp[za,zb,z6];generalize H++[AObj.vars [AV.i p,AV.i q]]=H1 at *;clear g0 g1 g2;generalize H.length=X at *
  cases hA:decide (inS a p)
  ·rw[hA]at zc z8 cA;simp only[Fk]at hR;rw[if_pos (z8 rfl)]at hR;subst hR;repeat(refine s_ ?_;simp[k0,k1,kx])
   refine pcL (cA) ?_;simp[k0,k1,kx];refine Wg rfl rfl ?_;simp;repeat(refine s_ ?_;simp)
   refine Qa rfl (λ_=>?_) (λh=>by simp at h);repeat(refine s_ ?_;simp)
  rw[hA]at zc z8 cA;cases hB:decide (inS b q)
  ·rw[hB]at z8 cB;simp only[Fk]at hR;rw[if_pos (z8 rfl)]at hR;subst hR;repeat(refine s_ ?_;simp[k0,k1,kx])
   refine pcL (cA) ?_;simp[k0,k1,kx];refine pcL (cB) ?_;simp[k0,k1,kx];repeat(refine s_ ?_;simp)
   refine Qa rfl (λ_=>?_) (λh=>by simp at h);repeat(refine s_ ?_;simp)
  rw[hB]at zc cB;repeat(refine s_ ?_;simp[k0,k1,kx])
  refine pcL (cA) ?_;simp[k0,k1,kx];refine pcL (cB) ?_;simp[k0,k1,kx];repeat(refine s_ ?_;simp)
  refine Qa rfl (λh=>by simp at h) (λ_=>?_);repeat(refine s_ ?_;simp[hw])
  refine Qc (sl':=[(3,.vptr 0 0),(4,.vptr 1 0),(5,.vptr 2 0),(7,.fn (.func 135) [] []),(58,LQp ps),(59,.i ps.length),(60,.i (n+1:Nat))]) ?_ (by simp);exact ih (n+1,H1) ⟨by simp only;omega,by simp only[Fk];exact zc,k0,k1,k2⟩ (by simp only;omega)
 have zd:n=ps.length:=by simp at zh;omega
 subst zd;rw[yR]at hI;rw[hI,if_neg (by simp)]at hR;clear ih;refine Qp (sl':=[(3,.vptr 0 0),(4,.vptr 1 0),(5,.vptr 2 0)]) ?_ (by simp);repeat(refine s_ ?_;simp[g0])
 refine pcL (v0p a.types hT.1 hT.2) ?_;simp;have k2:=Qb g2 [AObj.vars [AV.list (uP encL (Wi a.types.toNat))]];have kp:(H++[AObj.vars [AV.list (uP encL (Wi a.types.toNat))]])[H.length]?=some (.vars [.list ((Wi a.types.toNat).map encL)]):=by rw[zO (by simp)];simp
 generalize H++[AObj.vars [AV.list (uP encL (Wi a.types.toNat))]]=H1 at *;clear g0 g1 g2;generalize H.length=X at *;clear H
 repeat(refine s_ ?_;simp[k2])
 refine Qp (sl':=[(10,.vptr X 0),(86,LSy w),(87,.i w.length),(88,.i (0:Nat))]) ?_ (by simp);refine Qi ?_;refine Qj (P:=prog) (F:=λ(u:Nat×List AObj)=>⟨[(10,.vptr X 0),(86,LSy w),(87,.i w.length),(88,.i u.1)],u.2⟩)
  (λu=>u.1<=w.length/\M4 a.types (w.drop u.1)=R/\u.2[X]?=some (.vars [.list ((Wi a.types.toNat).map encL)])) (λu=>w.length - u.1) ?_ (0,_) ⟨by simp,by simpa using hR,kp⟩
 clear k2 kp hR;rintro⟨j,H⟩ ⟨hj,z7,kp⟩ ih;simp only at hj z7 kp ih |-;repeat(refine s_ ?_;simp)
 refine Qa rfl (λze=>?_) (λzf=>?_)
 ·have z1:j<w.length:=by simpa using ze
  have zi:=wz j (by omega);rw[Ec z1,M4]at z7;have za:(w.map encSy)[j]?=some (encSy w[j]):=by simp[z1]
  have zb:∀hh,(w.map encSy)[j]'hh=encSy w[j]:=λhh=>by simp
  generalize w[j]=y at *
  have cC:=Ya (Wi a.types.toNat) y;rw[Dn a.types hT]at cC;simp only[encSy,encP]at za zb cC;have kq:=Qb kp [AObj.vars [.i y.ty,.i y.num]];have ky:(H++[AObj.vars [.i y.ty,.i y.num]])[H.length]?=some (.vars [.i y.ty,.i y.num]):=by rw[zO (by simp)];simp
  refine Uf ?_;simp;refine Rj ?_;refine Te ?_;refine Rj (Rp tOk rfl ?_);simp[za,zb,z1];generalize H++[AObj.vars [.i y.ty,.i y.num]]=H1 at *;clear kp;generalize H.length=Y at *
  repeat(refine s_ ?_;simp[kq,ky])
  refine pcL (cC) ?_;simp;repeat(refine s_ ?_;simp)
  refine Qa rfl (λh=>?_) (λh=>?_)
  ·rw[if_pos (by simpa using h)]at z7;subst z7;repeat(refine s_ ?_;simp)
  rw[if_neg (by simpa using h)]at z7;repeat(refine s_ ?_;simp[zi])
  refine Qc (sl':=[(10,.vptr X 0),(86,LSy w),(87,.i w.length),(88,.i (j+1:Nat))]) ?_ (by simp);exact ih (j+1,H1) ⟨by simp only;omega,z7,kq⟩ (by simp only;omega)
 have zj:j=w.length:=by simp at zf;omega
 subst zj;rw[x_]at z7;subst z7;repeat(refine s_ ?_;simp)
 rfl
end
end Go.Abs
