/- Part Xj of the proof: steps on the way to the last part. No condition. -/
import Derived.Test.YtjmkolhkojgjpaaGreatDoorXi
import Derived.Test.YtjmkolhkojgjpaaGreatDoorXh
import Derived.Test.YtjmkolhkojgjpaaGreatDoorXg
import Derived.Test.YtjmkolhkojgjpaaGreatDoorXc
import Derived.Shelf.SlGeneric
import Derived.Ground.SlsfProg
import Derived.Shelf.SlSortCmp.WholeK
import Derived.Test.YtjmkolhkojgjpaaGreatDoorProg
import Derived.DeepKeys4
set_option linter.all false
open List renaming take_succ_eq_append_getElem->zU,filter_append->u9,filter_cons->uX,filter_nil->tU,length_filter_le->yX,length_take->xV,range->yU,getElem?_append_left->zF,ext_getElem?->xL,getElem?_set_self->zK,getElem?_set_ne->zE,getElem?_eq_none->yY,map_congr_left->y_,map_map->vT,mem_range->xJ,take_of_length_le->zV,mem_map->zQ,length_cons->yW,length_nil->tV,getElem_mem->zL,getElem?_append_right->zH,getElem_eq_iff->zY,getElem?_eq_getElem->zI,take_length->yI,flatMap_append->wJ,filterMap_append->uo,take_append_drop->xO,getElem?_map->zS,append_nil->xG,append_assoc->xQ,length_pos_iff->uK,pairwise_iff_getElem->yL,getElem?_eq_some_iff->zB,range_succ->wU,mem_of_getElem?->zJ,map_append->yR,length_append->zW,nodup_append->vw,map_id'->sf,mem_append->zT,drop_eq_getElem_cons->wH,set_append_right->up
open Nat renaming le_trans->yP,le_refl->zR,zero_le->xI,succ_mul->uM,mul_le_mul->uw,succ_le_succ->tW
open Bool renaming or_eq_true->wV,and_eq_true->yF,not_eq_true->uz,false_eq_true->uO
open Array renaming getElem?_append_left->yT,getElem?_modify->wR
open Option renaming map_eq_some_iff->zP,map_some->wG
set_option maxHeartbeats 16000000
set_option linter.unusedSimpArgs false
set_option maxRecDepth 100000
open Go.Proofs.Tryz
namespace Go.Abs
open Go Go.Proofs Go.Maps Go.RowKit
section
attribute [simp] g2z g2k g2y v2f T66 T41
def Tv(a:Aut)(j k:Nat):List Mv:=(a.mv.take j).filter λm=>decide (m.src=(k:Int)) && !Wj m.on
def z1i(a:Aut)(k:Nat):Tv a a.mv.length k=Wc a k:=by simp[Tv,Wc]
def Ui(a:Aut)(k:Nat):Tv a 0 k=[]:=by simp[Tv]
def x02(a:Aut){j:Nat}(h:j<a.mv.length)(k:Nat):Tv a (j+1) k=Tv a j k++(if decide (a.mv[j].src=(k:Int)) && !Wj a.mv[j].on then [a.mv[j]]else []):=by
 unfold Tv;rw[zU h,u9]
 congr 1
 rw[uX,tU]
def y1o(a:Aut)(j k:Nat):(Tv a j k).length<=a.mv.length:=by unfold Tv;refine yP (yX _ _) ?_;rw[xV];omega
def Ys(l:List Mv):AV:= .list (l.map encMv)
def Yp(a:Aut):List AV:=(yU a.fin.length).map λk:Nat=>Ys (Wc a k)
def Wl(a:Aut):List AV:=[.i a.types,.list (a.fin.map .bool),.list (a.mv.map encMv),.list (Yp a)]
def T1(a:Aut):AV:= .agg (Wl a)
def Da(p:Nat)(xs:List Mv):AV:=if xs=[]then .nils else .sl p 3 0 xs.length
def Jr(n:Nat)(L:Nat->Nat)(rs:Nat->List Mv):List AV:=(yU n).map λk=>Da (L k) (rs k)
def Oa(n:Nat)(L:Nat->Nat)(rs:Nat->List Mv):(Jr n L rs).length=n:=by simp[Jr]
def Jg{n:Nat}(L:Nat->Nat)(rs:Nat->List Mv){k:Nat}(h:k<n):(Jr n L rs)[k]?=some (Da (L k) (rs k)):=by simp[Jr,h]
structure MR (K:List AObj) (n o:Nat) (rs:Nat->List Mv) (L:Nat->Nat) (H:List AObj):Prop where
 out:H[o]?=some (.va 23 1 (Jr n L rs))
 leaf:∀k,k<n->rs k≠[]->H[L k]?=some (.arr 73 3 ((rs k).map encMv))
 inj:∀k k',k<n->k'<n->rs k≠[]->rs k'≠[]->L k=L k'->k=k'
 ne:∀k,k<n->rs k≠[]->L k≠o
 geo:K.length<=o
 geL:∀k,k<n->rs k≠[]->K.length<=L k
 keep:∀j,j<K.length->H[j]? =K[j]?
def MR.grow{K:List AObj}{n o:Nat}{rs:Nat->List Mv}{L:Nat->Nat}{H:List AObj}(h:MR K n o rs L H)(E:List AObj):MR K n o rs L (H++E):=by have z1:=h.geo;have ho:=Qe h.out;exact⟨Qa h.out E,λk hk hn=>Qa (h.leaf k hk hn) E,h.inj,h.ne,h.geo,h.geL,λj hj=>by rw[zF (by omega)];exact h.keep j hj⟩
def MR.put {K:List AObj} {n o:Nat} {rs:Nat->List Mv} {L:Nat->Nat} {H H':List AObj} (h:MR K n o rs L H) {i:Nat} (hi:i<n) {m:Mv} {np:Nat} (zc:H.length<=np)
  (za:H'[o]?=some (.va 23 1 ((Jr n L rs).set i (.sl np 3 0 ((rs i).length+1))))) (z6:H'[np]?=some (.arr 73 3 ((rs i++[m]).map encMv)))
  (hk:∀j,j<H.length->j≠o->(rs i≠[]->j≠L i)->H'[j]? =H[j]?):MR K n o (λk=>if k=i then rs i++[m]else rs k) (λk=>if k=i then np else L k) H':=by
 have lo:=Qe h.out;have lL:=λk hk hn=>Qe (h.leaf k hk hn);refine⟨?_,λk z1 hn=>?_,λk k' z1 z7 hn z8 e=>?_,λk z1 hn=>?_,h.geo,λk z1 hn=>?_,λj hj=>?_⟩
 ·rw[za]
  congr 2
  refine xL λk=>?_;by_cases z1:k<n
  ·rw[Jg _ _ z1];by_cases e:k=i
   ·subst e;rw[zK (by rw[Oa];exact z1)];simp[Da]
   rw[zE (λe'=>e e'.symm),Jg _ _ z1];simp[e]
  rw[yY (by rw[List.length_set,Oa];omega),yY (by rw[Oa];omega)]
 ·by_cases e:k=i
  ·subst e;simpa using z6
  simp only[e,if_false]at hn |-;rw[hk _ (lL k z1 hn) (h.ne k z1 hn) (λzb e'=>e (h.inj k i z1 hi hn zb e'))];exact h.leaf k z1 hn
 ·by_cases e1:k=i
  ·by_cases e2:k'=i
   ·rw[e1,e2]
   simp only[e1,e2,if_true,if_false]at e z8;have:=lL k' z7 z8;omega
  by_cases e2:k'=i
  ·simp only[e1,e2,if_true,if_false]at e hn;have:=lL k z1 hn;omega
  simp only[e1,e2,if_false]at e hn z8;exact h.inj k k' z1 z7 hn z8 e
 ·by_cases e:k=i
  ·simp only[e,if_true];omega
  simp only[e,if_false]at hn |-;exact h.ne k z1 hn
 ·have zd:=h.geo;by_cases e:k=i
  ·simp only[e,if_true];omega
  simp only[e,if_false]at hn |-;exact h.geL k z1 hn
 have ze:=h.geo;rw[hk j (by omega) (by omega) (λzb e=>by have:=h.geL i hi zb;omega)];exact h.keep j hj
def w0z(n:Nat)(L:Nat->Nat)(rs:Nat->List Mv)(k:Nat):List AV:=(yU n).map λi=>if i<k/\rs i≠[]then Ys (rs i)else Da (L i) (rs i)
section
variable {P:Program} [Env P] {nt kk:Nat} {cd:Code} {Q:Exit->AS->Prop}
def w1s(n:Nat)(L:Nat->Nat)(rs:Nat->List Mv):w0z n L rs 0=Jr n L rs:=by unfold w0z Jr;exact y_ λi _=>by rw[if_neg (by omega)]
def x1v{n:Nat}{L:Nat->Nat}{rs:Nat->List Mv}{k:Nat}(h:rs k=[]):w0z n L rs (k+1)=w0z n L rs k:=by
 unfold w0z;refine y_ λi _=>?_;by_cases e:i=k
 ·subst e;simp[h]
 by_cases h2:i<k
 ·simp[h2,show i<k+1 by omega]
 simp[h2,show ¬i<k+1 by omega]
def j1s{i c:Nat}{ys:List AV}{xs:List Mv}{p:Nat}(h:xs=[]\/p≠i):(Da p xs).fz i c ys=Da p xs:=by
 unfold Da;split
 ·simp[AV.fz]
 rw[AV.fz,if_neg];rintro⟨e,_⟩;rcases h with h|h
 ·contradiction
 exact h e
def w1t{n:Nat}{L:Nat->Nat}{rs:Nat->List Mv}(z1:∀k k',k<n->k'<n->rs k≠[]->rs k'≠[]->L k=L k'->k=k'){k:Nat}(hk:k<n)(h:rs k≠[]):
  (w0z n L rs k).map (AV.fz (L k) 3 ((rs k).map encMv))=w0z n L rs (k+1):=by
 unfold w0z;rw[vT];refine y_ λi hi=>?_;have z6:=xJ.1 hi;simp only[Function.comp_apply];by_cases e:i=k
 ·subst e;simp only[Nat.lt_irrefl,false_and,if_false];rw[if_pos ⟨by omega,h⟩,Da,if_neg h,AV.fz,if_pos ⟨rfl,rfl,by simp⟩];simp[Ys,zV]
 by_cases h2:i<k/\rs i≠[]
 ·rw[if_pos h2,if_pos ⟨by omega,h2.2⟩];simp[Ys,AV.fz]
 rw[if_neg h2,if_neg (λh3=>h2 ⟨by omega,h3.2⟩)];refine j1s ?_;by_cases hr:rs i=[]
 ·exact .inl hr
 exact .inr λe2=>e (z1 i k z6 hk hr h e2)
def MR.freeze {n o:Nat} {rs:Nat->List Mv} {L:Nat->Nat} {sl:List (Nat×AV)} (z1:∀k k',k<n->k'<n->rs k≠[]->rs k'≠[]->L k=L k'->k=k') (z7:∀k,k<n->rs k≠[]->L k≠o)
  (zb:∀k,k<n->rs k≠[]->sl.map (λp=>(p.1,p.2.fz (L k) 3 ((rs k).map encMv)))=sl):∀(d k:Nat) (H:List AObj),k+d=n->H[o]?=some (.va 23 1 (w0z n L rs k))->(∀i,k<=i->i<n->rs i≠[]->H[L i]?=some (.arr 73 3 ((rs i).map encMv)))->
  (∀H',H'[o]?=some (.va 23 1 (w0z n L rs n))->(∀j,j<H.length->j≠o->(∀i,k<=i->i<n->rs i≠[]->j≠L i)->H'[j]? =H[j]?)->AWP P nt kk cd Q ⟨sl,H'⟩)->AWP P nt kk cd Q ⟨sl,H⟩
 |0,k,H,hd,ho,hl,h=>by
  have:k=n:=by omega
  subst this;exact h H ho λ_ _ _ _=>rfl
 |d+1,k,H,hd,ho,hl,h=>by
  by_cases hr:rs k=[]
  ·refine MR.freeze z1 z7 zb d (k+1) H (by omega) (by rw[x1v hr];exact ho) (λi hi=>hl i (by omega)) λH' zc zd=>h H' zc λj hj z8 za=>zd j hj z8 λi hi=>za i (by omega)
  have z6:k<n:=by omega
  have zg:=z7 k z6 hr;have zh:=hl k (zR _) z6 hr;refine Ib (L k) zh o ho (Ne.symm zg) rfl ?_;rw[zb k z6 hr];have zi:=Qe ho;have e:AObj.fz (L k) 3 ((rs k).map encMv) (.va 23 1 (w0z n L rs k))= .va 23 1 (w0z n L rs (k+1)):=by rw[AObj.fz,w1t z1 z6 hr]
  rw[e];refine MR.freeze z1 z7 zb d (k+1) _ (by omega) (zK (by simpa using zi)) (λi hi ze zf=>?_) λH' zc zd=>h H' zc λj hj z8 za=>?_
  ·rw[zE (Ne.symm (z7 i ze zf)),zE (λe2=>by have:=z1 k i z6 ze hr zf e2;omega)];exact hl i (by omega) ze zf
  rw[zd j (by simpa using hj) z8 λi hi=>za i (by omega),zE (Ne.symm z8),zE (Ne.symm (za k (zR _) z6 hr))]
end
def z2j(n:Nat)(L:Nat->Nat)(rs:Nat->List Mv):(w0z n L rs n).all (λx=>x.cells.all AV.pure)=true/\(w0z n L rs n).map AV.nrm=(yU n).map λk=>Ys (rs k):=by
 have hc:∀i,i<n->(if i<n/\rs i≠[]then Ys (rs i)else Da (L i) (rs i))=if rs i=[]then .nils else Ys (rs i):=λi hi=>by
  by_cases hr:rs i=[]
  ·rw[if_neg (λh=>h.2 hr),if_pos hr,Da,if_pos hr]
  rw[if_pos ⟨hi,hr⟩,if_neg hr]
 have e:w0z n L rs n=(yU n).map λi=>if rs i=[]then .nils else Ys (rs i):=y_ λi hi=>hc i (xJ.1 hi)
 rw[e];constructor
 ·rw[List.all_map,List.all_eq_true];intro i _;simp only[Function.comp_apply];split
  ·simp[AV.cells,AV.pure]
  simp[Ys,AV.cells,AV.pure]
 rw[vT];refine y_ λi _=>?_;simp only[Function.comp_apply];split
 ·rename_i h;rw[h];simp[Ys,AV.nrm]
 simp[Ys,AV.nrm]
attribute [local irreducible] Tv Ew Wc
def Cw(a:Aut)(ha:OkA a):PC prog 57 [encA a] (λr=>r=T1 a):=by
 refine pcB func57 results57 ntmps57 ?_;simp only[Qf];simp only[encA];have y4:=ha.fin;have yf:=ha.mvs;repeat(refine s_ ?_;simp)
 refine Uk (P:=prog) tOk mixed [7] (.val 0 (.val 1 (.val 2 (.val 3 (.two 4 (.val 5 (.one 6 (.one 7 (.done)))) 6 (.one 4 (.val 5 (.one 7 (.done))))))))) (λS'=>∃o c:Nat,o≠c/\2<=o/\2<=c/\S'.hp[0]?=some (.vars (Qk a))/\S'.hp[1]?=some (.vars [.i 0,.nils,.nils,.nils])/\S'.hp[o]?=some (.arr 23 1 (List.replicate a.fin.length .nils))/\S'.hp[c]?=some (.vars [.i a.types,.list (a.fin.map .bool),.list (a.mv.map encMv),.sl o 1 0 a.fin.length])/\look S'.sl 1=some (.vptr 0 0)/\look S'.sl 2=some (.vptr 1 0)/\look S'.sl 3=some (.vptr c 0)) rfl (by kernel_rfl) ?_ ?_
 ·simp
  repeat' (first
   |refine And.intro ?_ ?_
   |(refine Rb tOk rfl rfl rfl g2k rfl T23 rfl rfl rfl (n:=a.fin.length) (by simp;omega) (by unfold maxLen;omega) .nils rfl ?_;simp))
  ·exact⟨2,3,by simp[Qk]⟩
  exact⟨3,2,by simp[Qk]⟩
 rintro⟨sl,H⟩ ⟨o,c,zq,y5,yg,h0,h1,ho,hc,s1,s2,s3⟩;simp only at h0 h1 ho hc s1 s2 s3;simp;refine Qn (sl':=[(1,.vptr 0 0),(2,.vptr 1 0),(3,.vptr c 0)]) ?_ (by simp[s1,s2,s3]);refine Gs o ho ?_;refine Q4 λZ hZ=>?_;have z0:Z[0]?=some (.vars (Qk a)):=by rw[hZ,zE (by omega)];exact h0
 have zc:Z[c]?=some (.vars [.i a.types,.list (a.fin.map .bool),.list (a.mv.map encMv),.sl o 1 0 a.fin.length]):=by rw[hZ,zE zq];exact hc
 have zM:MR [.vars (Qk a),.vars [.i 0,.nils,.nils,.nils]] a.fin.length o (Tv a 0) (λ_=>0) Z:=by
  refine⟨?_,λk _ hn=>absurd (Ui a k) hn,λk _ _ _ hn=>absurd (Ui a k) hn,λk _ hn=>absurd (Ui a k) hn,by simpa using y5,λk _ hn=>absurd (Ui a k) hn,λj hj=>?_⟩
  ·rw[hZ,zK (Qe ho)]
   congr 2
   rw[eq_comm,List.eq_replicate_iff];refine⟨Oa _ _ _,λx hx=>?_⟩;obtain⟨k,_,rfl⟩:=zQ.1 hx;simp[Da,Ui]
  simp only[yW,tV]at hj;rw[hZ,zE (by omega)];rcases j with _|_|j
  ·exact h0
  ·exact h1
  omega
 clear hZ h0 h1 ho hc;clear H;repeat(refine s_ ?_;simp[z0])
 refine Qj (Qc (sl':=[(1,.vptr 0 0),(2,.vptr 1 0),(3,.vptr c 0),(15,.list (a.mv.map encMv)),(16,.i a.mv.length),(17,.i (0:Nat))]) ?_ (by simp));refine Qi (F:=λ(u:Nat×(Nat->Nat)×List AObj)=>⟨[(1,.vptr 0 0),(2,.vptr 1 0),(3,.vptr c 0),(15,.list (a.mv.map encMv)),(16,.i a.mv.length),(17,.i u.1)],u.2.2⟩)
  (λu=>u.1<=a.mv.length/\u.2.2[c]?=some (.vars [.i a.types,.list (a.fin.map .bool),.list (a.mv.map encMv),.sl o 1 0 a.fin.length])/\MR [.vars (Qk a),.vars [.i 0,.nils,.nils,.nils]] a.fin.length o (Tv a u.1) u.2.1 u.2.2) (λu=>a.mv.length - u.1) ?_ (0,λ_=>0,Z) ⟨xI _,zc,zM⟩
 clear z0 zc zM;clear Z;rintro⟨j,L,G⟩ ⟨hj,gc,gM⟩ ih;simp only at hj gc gM ih |-;repeat(refine s_ ?_;simp)
 refine Qb rfl (λy6=>?_) (λy7=>?_)
 ·have zd:j<a.mv.length:=by simpa using y6
  have hw:=wz j (by omega);have y0:=x02 a zd;have y8:=y1o a j;have zr:=ha.mv _ (zL zd);have zt:=d1l ha (zL zd);have zo:=λL' G'=>ih (j+1,L',G');simp only at zo;repeat(refine s_ ?_;simp[zd])
  generalize a.mv[j]=m at *;refine pcL (Sa a.types.toNat m.on m.on zr.on.wf zr.on.wf (λs hs=>by have:=zt s hs;omega) (λs hs=>by have:=zt s hs;omega) (by have:=ha.types;omega)) ?_
  simp;rw[w0o zr.on.wf];cases hv:Wj m.on with
  |true=>
   have ze:Tv a (j+1)=Tv a j:=funext λk=>by rw[y0 k,hv];simp
   rw[ze]at zo;simp[Jk,encSy];repeat(refine s_ ?_;simp)
   refine Qr rfl ?_;repeat(refine s_ ?_;simp[hw])
   refine Qc (sl':=[(1,.vptr 0 0),(2,.vptr 1 0),(3,.vptr c 0),(15,.list (a.mv.map encMv)),(16,.i a.mv.length),(17,.i (j+1:Nat))]) ?_ (by simp);exact zo L _ ⟨by omega,Qa gc _,gM.grow _⟩ (by omega)
  |false=>
   obtain⟨k,hk⟩:∃k:Nat,m.src=k:=⟨m.src.toNat,by have:=zr.src.1;omega⟩
   have z7:k<a.fin.length:=by have:=zr.src.2;omega
   have ze:Tv a (j+1)=λk'=>if k'=k then Tv a j k++[m]else Tv a j k':=funext λk'=>by
    rw[y0 k',hv];by_cases e:k'=k
    ·subst e;simp[hk]
    have:¬m.src=(k':Int):=by omega
    simp[e,this]
   rw[ze]at zo;simp[Jk,encSy];repeat(refine s_ ?_;simp)
   refine Qr rfl ?_;refine Q4 λZ hZ=>?_;have zc:Z[c]?=some (.vars [.i a.types,.list (a.fin.map .bool),.list (a.mv.map encMv),.sl o 1 0 a.fin.length]):=by rw[hZ];exact Qa gc _
   have zM:MR [.vars (Qk a),.vars [.i 0,.nils,.nils,.nils]] a.fin.length o (Tv a j) L Z:=by rw[hZ];exact gM.grow _
   have zm:Z[G.length]?=some (.vars [.i m.src,.i m.dst,.list (m.on.map encL)]):=by rw[hZ,zH (by simp)];simp
   clear hZ gc gM y0 ze;generalize G.length=g at *;clear G
   have z6:=Jg L (Tv a j) z7;have zj:=Oa a.fin.length L (Tv a j);have z8:=zM.out;have zu:=zM.leaf k z7;rw[hk]at zm;have zb:∀M,(Z++M)[c]?=some (.vars [.i a.types,.list (a.fin.map .bool),.list (a.mv.map encMv),.sl o 1 0 a.fin.length]):=λM=>Qa zc M;have outA:∀M,(Z++M)[o]?=some (.va 23 1 (Jr a.fin.length L (Tv a j))):=λM=>Qa z8 M;have zf:∀M,(Z++M)[g]?=some (.vars [.i k,.i m.dst,.list (m.on.map encL)]):=λM=>Qa zm M;have zk:∀M hh,(Z++M)[c]'hh= .vars [.i a.types,.list (a.fin.map .bool),.list (a.mv.map encMv),.sl o 1 0 a.fin.length]:=λM hh=>(zY hh).2 (zb M);have outH:∀M hh,(Z++M)[o]'hh= .va 23 1 (Jr a.fin.length L (Tv a j)):=λM hh=>(zY hh).2 (outA M);have zl:∀M hh,(Z++M)[g]'hh= .vars [.i k,.i m.dst,.list (m.on.map encL)]:=λM hh=>(zY hh).2 (zf M);repeat(refine s_ ?_;simp)
   generalize zv:Jr a.fin.length L (Tv a j)=RC at *
   have yh:=y8 k;generalize zh:Tv a j k=rs at *
   by_cases hr0:rs=[]
   ·rw[Da,if_pos hr0]at z6;have zi:∀hh,RC[k]'hh= .nils:=λhh=>by rw[zI hh]at z6;exact Option.some.inj z6
    refine Uk (P:=prog) tOk mixed [12,14] (.val 0 (.val 2 (.val 4 (.val 5 (.val 6 (.val 7 (.val 8 (.val 9 (.val 10 (.three 1 (.two 3 (.one 11 (.one 12 (.val 13 (.one 14 (.done))))) 11 (.two 3 (.one 12 (.val 13 (.one 14 (.done)))) 12 (.val 3 (.val 13 (.one 14 (.done)))))) 3 (.two 1 (.one 11 (.one 12 (.val 13 (.one 14 (.done))))) 11 (.two 1 (.one 12 (.val 13 (.one 14 (.done)))) 12 (.val 1 (.val 13 (.one 14 (.done)))))) 11 (.three 1 (.two 3 (.one 12 (.val 13 (.one 14 (.done)))) 12 (.val 3 (.val 13 (.one 14 (.done))))) 3 (.two 1 (.one 12 (.val 13 (.one 14 (.done)))) 12 (.val 1 (.val 13 (.one 14 (.done))))) 12 (.val 1 (.val 3 (.val 13 (.one 14 (.done)))))))))))))))) (λS'=>S'.hp=(Z++[AObj.arr 73 3 [.agg [.i k,.i m.dst,.list (m.on.map encL)]],AObj.arr 73 3 [.agg [.i k,.i m.dst,.list (m.on.map encL)]]]).set o (.va 23 1 (RC.set k (.sl (Z.length+1) 3 0 1)))/\look S'.sl 1=some (.vptr 0 0)/\look S'.sl 2=some (.vptr 1 0)/\look S'.sl 3=some (.vptr c 0)/\look S'.sl 15=some (.list (a.mv.map encMv))/\look S'.sl 16=some (.i a.mv.length)/\look S'.sl 17=some (.i j)) rfl (by kernel_rfl) ?_ ?_
    ·simp[zc,z8,zm,z6,zi,z7,zj,zb,outA,zf,zk,outH,zl]
     repeat' (first
      |refine And.intro ?_ ?_
      |(refine apS T23 T73 ?_;simp[zb,outA,zf,zk,outH,zl,z6,zi,z7,zj];refine⟨by simp[Wg]<;>omega,?_⟩;simp[zb,outA,zf,zk,outH,zl,z6,zi,z7,zj]))
    rintro⟨sl,E⟩ ⟨rfl,s1,s2,s3,s15,s16,s17⟩;simp only at s1 s2 s3 s15 s16 s17;simp;refine Qn (sl':=[(1,.vptr 0 0),(2,.vptr 1 0),(3,.vptr c 0),(15,.list (a.mv.map encMv)),(16,.i a.mv.length),(17,.i j)]) ?_ (by simp[s1,s2,s3,s15,s16,s17]);repeat(refine s_ ?_;simp[hw])
    refine Qc (sl':=[(1,.vptr 0 0),(2,.vptr 1 0),(3,.vptr c 0),(15,.list (a.mv.map encMv)),(16,.i a.mv.length),(17,.i (j+1:Nat))]) ?_ (by simp);have zx:=Qe z8;have za:=zM.put z7 (m:=m) (np:=Z.length+1) (H':=(Z++[AObj.arr 73 3 [.agg [.i k,.i m.dst,.list (m.on.map encL)]],AObj.arr 73 3 [.agg [.i k,.i m.dst,.list (m.on.map encL)]]]).set o (.va 23 1 (RC.set k (.sl (Z.length+1) 3 0 1)))) (by omega)
     (by rw[zK (by simp;omega),zv,zh,hr0];rfl) (by rw[zE (by omega),zH (by omega),zh,hr0];simp[hk]) (λjj h1 h2 _=>by rw[zE (Ne.symm h2),zF h1])
    rw[zh]at za;exact zo _ _ ⟨by omega,by rw[zE zq];exact zb _,za⟩ (by omega)
   rw[Da,if_neg hr0]at z6;have zi:∀hh,RC[k]'hh= .sl (L k) 3 0 rs.length:=λhh=>by rw[zI hh]at z6;exact Option.some.inj z6
   have zp:=zu hr0;have hlo:=zM.ne k z7 (by rw[zh];exact hr0);have y9:L k≠c:=λe=>by rw[e,zc]at zp;simp at zp
   have ya:L k≠g:=λe=>by rw[e,zm]at zp;simp at zp
   have yi:=Qe zp;have zg:∀M,(Z++M)[L k]?=some (.arr 73 3 (rs.map encMv)):=λM=>Qa zp M;have zn:∀M hh,(Z++M)[L k]'hh= .arr 73 3 (rs.map encMv):=λM hh=>(zY hh).2 (zg M);generalize yb:L k=p at *
   have outS:∀M M',((Z++M).set p .dead++M')[o]?=some (.va 23 1 RC):=λM M'=>Qa (Qd hlo (outA M) _) M';have outSH:∀M M' hh,((Z++M).set p .dead++M')[o]'hh= .va 23 1 RC:=λM M' hh=>(zY hh).2 (outS M M');have zw:∀M M',((Z++M).set p .dead++M')[c]?=some (.vars [.i a.types,.list (a.fin.map .bool),.list (a.mv.map encMv),.sl o 1 0 a.fin.length]):=λM M'=>Qa (Qd y9 (zb M) _) M';have zcSH:∀M M' hh,((Z++M).set p .dead++M')[c]'hh= .vars [.i a.types,.list (a.fin.map .bool),.list (a.mv.map encMv),.sl o 1 0 a.fin.length]:=λM M' hh=>(zY hh).2 (zw M M');have zy:∀M M',((Z++M).set p .dead++M')[g]?=some (.vars [.i k,.i m.dst,.list (m.on.map encL)]):=λM M'=>Qa (Qd ya (zf M) _) M';have zmSH:∀M M' hh,((Z++M).set p .dead++M')[g]'hh= .vars [.i k,.i m.dst,.list (m.on.map encL)]:=λM M' hh=>(zY hh).2 (zy M M');refine Uk (P:=prog) tOk mixed [12,14] (.val 0 (.val 2 (.val 4 (.val 5 (.val 6 (.val 7 (.val 8 (.val 9 (.val 10 (.three 1 (.two 3 (.one 11 (.one 12 (.val 13 (.one 14 (.done))))) 11 (.two 3 (.one 12 (.val 13 (.one 14 (.done)))) 12 (.val 3 (.val 13 (.one 14 (.done)))))) 3 (.two 1 (.one 11 (.one 12 (.val 13 (.one 14 (.done))))) 11 (.two 1 (.one 12 (.val 13 (.one 14 (.done)))) 12 (.val 1 (.val 13 (.one 14 (.done)))))) 11 (.three 1 (.two 3 (.one 12 (.val 13 (.one 14 (.done)))) 12 (.val 3 (.val 13 (.one 14 (.done))))) 3 (.two 1 (.one 12 (.val 13 (.one 14 (.done)))) 12 (.val 1 (.val 13 (.one 14 (.done))))) 12 (.val 1 (.val 3 (.val 13 (.one 14 (.done)))))))))))))))) (λS'=>S'.hp=((Z++[AObj.arr 73 3 [.agg [.i k,.i m.dst,.list (m.on.map encL)]]]).set p .dead++[AObj.arr 73 3 (rs.map encMv++[.agg [.i k,.i m.dst,.list (m.on.map encL)]])]).set o (.va 23 1 (RC.set k (.sl (Z.length+1) 3 0 (rs.length+1))))/\look S'.sl 1=some (.vptr 0 0)/\look S'.sl 2=some (.vptr 1 0)/\look S'.sl 3=some (.vptr c 0)/\look S'.sl 15=some (.list (a.mv.map encMv))/\look S'.sl 16=some (.i a.mv.length)/\look S'.sl 17=some (.i j)) rfl (by kernel_rfl) ?_ ?_
   ·simp[zc,z8,zm,z6,zi,z7,zj,zb,outA,zf,zk,outH,zl,zg,zn]
    repeat' (first
     |refine And.intro ?_ ?_
     |(refine apS T23 T73 ?_;simp[zb,outA,zf,zk,outH,zl,z6,zi,z7,zj,zg,zn,outS,outSH,zw,zcSH,zy,zmSH];refine⟨by simp[Wg]<;>omega,?_⟩;simp[zb,outA,zf,zk,outH,zl,z6,zi,z7,zj,outS,outSH,zw,zcSH,zy,zmSH])
     |(refine apS T23 T73 ?_;simp[zb,outA,zf,zk,outH,zl,z6,zi,z7,zj,zg,zn,outS,outSH,zw,zcSH,zy,zmSH];simp[Wg]<;>omega)
     |omega)
   rintro⟨sl,E⟩ ⟨rfl,s1,s2,s3,s15,s16,s17⟩;simp only at s1 s2 s3 s15 s16 s17;simp;refine Qn (sl':=[(1,.vptr 0 0),(2,.vptr 1 0),(3,.vptr c 0),(15,.list (a.mv.map encMv)),(16,.i a.mv.length),(17,.i j)]) ?_ (by simp[s1,s2,s3,s15,s16,s17]);repeat(refine s_ ?_;simp[hw])
   refine Qc (sl':=[(1,.vptr 0 0),(2,.vptr 1 0),(3,.vptr c 0),(15,.list (a.mv.map encMv)),(16,.i a.mv.length),(17,.i (j+1:Nat))]) ?_ (by simp);have zx:=Qe z8;have za:=zM.put z7 (m:=m) (np:=Z.length+1) (H':=((Z++[AObj.arr 73 3 [.agg [.i k,.i m.dst,.list (m.on.map encL)]]]).set p .dead++[AObj.arr 73 3 (rs.map encMv++[.agg [.i k,.i m.dst,.list (m.on.map encL)]])]).set o (.va 23 1 (RC.set k (.sl (Z.length+1) 3 0 (rs.length+1))))) (by omega)
    (by rw[zK (by simp;omega),zv,zh]) (by rw[zE (by omega),zH (by simp),zh];simp[hk]) (λjj h1 h2 h3=>by
     have h4:p≠jj:=λe=>h3 (by rw[zh];exact hr0) (by rw[yb];exact e.symm);rw[zE (Ne.symm h2),zF (by simp;omega),zE h4,zF h1])
   rw[zh]at za;exact zo _ _ ⟨by omega,by rw[zE zq];exact zw _ _,za⟩ (by omega)
 have y1:j=a.mv.length:=by simp at y7;omega
 subst y1;refine Qn (sl':=[(1,.vptr 0 0),(2,.vptr 1 0),(3,.vptr c 0)]) ?_ (by simp);refine MR.freeze (n:=a.fin.length) (o:=o) gM.inj gM.ne (λk hk hn=>by simp[AV.fz]) a.fin.length 0 G (by omega) (by rw[w1s];exact gM.out) (λk _ hk hn=>gM.leaf k hk hn) λH' y2 zz=>?_;obtain⟨yc,yd⟩:=z2j a.fin.length L (Tv a a.mv.length);have y3:H'[c]?=some (.vars [.i a.types,.list (a.fin.map .bool),.list (a.mv.map encMv),.sl o 1 0 a.fin.length]):=by rw[zz c (Qe gc) (Ne.symm zq) (λi _ hi hr e=>by have:=gM.leaf i hi hr;rw[<-e,gc]at this;simp at this)];exact gc
 have yj:H'[0]?=some (.vars (Qk a)):=by rw[zz 0 (by have:=Qe gM.out;omega) (by omega) (λi _ hi hr e=>by have:=gM.geL i hi hr;simp at this;omega)];exact gM.keep 0 (by simp)
 have ye:H'[1]?=some (.vars [.i 0,.nils,.nils,.nils]):=by rw[zz 1 (by have:=Qe gM.out;omega) (by omega) (λi _ hi hr e=>by have:=gM.geL i hi hr;simp at this;omega)];exact gM.keep 1 (by simp)
 have zx:=Qe y2;clear zz ih gM gc;refine Ow o y2 yc ?_;refine v06 o (zK zx) ?_;rw[yd,List.set_set];refine Q6 o (zK zx) c (by rw[zE zq];exact y3) ?_;refine Q4 λZ hZ=>?_;have zc:Z[c]?=some (.vars (Wl a)):=by rw[hZ,zK (by simpa using Qe y3)];simp[AV.fz,Wl,Yp,z1i];rw[zV (by simp)]
 have z1:Z[1]?=some (.vars [.i 0,.nils,.nils,.nils]):=by rw[hZ,zE (by omega),zE (by omega),zE (by omega)];exact ye
 clear hZ;simp[AV.fz];unfold T1 Wl;unfold Wl at zc;repeat(refine s_ ?_;simp[zc,z1,Qg z1])
end
section
abbrev Stp:=Sy×(Int×Int)
def Er(e:Stp):AV:= .agg [.i e.1.ty,.i e.1.num,.i e.2.1,.i e.2.2]
def x1j(a b:Aut)(p q:Int):PC prog 76 [T1 a,T1 b,.i p,.i q] (λr=>r= .fn (.func 142) [] [.iptr (Wl a),.iptr [.i p],.iptr (Wl b),.iptr [.i q]]):=by refine pcB func76 results76 ntmps76 ?_;simp only[Qf];simp only[T1,Wl];repeat(refine s_ ?_;simp)
def Vk(b:Aut)(q:Int)(m:Mv)(j:Nat):List Stp:=((Wc b q).take j).filterMap λn=>(Ew m.on n.on).map λx=>(x,(m.dst,n.dst))
def Iy(a b:Aut)(s:Int×Int)(i:Nat):List Stp:=((Wc a s.1).take i).flatMap λm=>Vk b s.2 m (Wc b s.2).length
def Ns(a b:Aut)(s:Int×Int):Iy a b s (Wc a s.1).length=W1 a b s:=by rw[x1c,Iy,yI];unfold Vk;rw[yI]
def v02(a b:Aut)(s:Int×Int):Iy a b s 0=[]:=by simp[Iy]
def f05(b:Aut)(q:Int)(m:Mv):Vk b q m 0=[]:=by simp[Vk]
def x0o(a b:Aut)(s:Int×Int){i:Nat}(h:i<(Wc a s.1).length):Iy a b s (i+1)=Iy a b s i++Vk b s.2 (Wc a s.1)[i] (Wc b s.2).length:=by unfold Iy;rw[zU h,wJ];simp
def y1l(b:Aut)(q:Int)(m:Mv){j:Nat}(h:j<(Wc b q).length):Vk b q m (j+1)=Vk b q m j++(match Ew m.on (Wc b q)[j].on with|some x=>[(x,(m.dst,(Wc b q)[j].dst))]|none=>[]):=by
 unfold Vk;rw[zU h,uo]
 congr 1
 cases hx:Ew m.on (Wc b q)[j].on<;>simp[hx]
def v1y(b:Aut)(q:Int)(m:Mv)(j:Nat):∃r,Vk b q m (Wc b q).length=Vk b q m j++r:=by refine⟨((Wc b q).drop j).filterMap λn=>(Ew m.on n.on).map λx=>(x,(m.dst,n.dst)),?_⟩;unfold Vk;rw[<-uo,xO,yI]
def w1p(a b:Aut)(s:Int×Int)(i:Nat):∃r,W1 a b s=Iy a b s i++r:=by refine⟨((Wc a s.1).drop i).flatMap λm=>Vk b s.2 m (Wc b s.2).length,?_⟩;rw[<-Ns];unfold Iy;rw[<-wJ,xO,yI]
def Cv{a:Aut}{s:Int}(h:inS a s):(Yp a)[s.toNat]?=some (Ys (Wc a s)):=by have:=Pu h;unfold Yp;rw[zS,List.getElem?_range this.1];simp[this.2]
def q0c{a:Aut}(ha:OkA a){s:Int}{m:Mv}(hm:m∈Wc a s):PWf a.types.toNat m.on/\∀t∈m.on,t.length<=256:=by have:=(Rl.1 hm).1;exact⟨ha.wfA.on m this,d1l ha this⟩
def F8(a:Aut)(s:Int):(Wc a s).length<=a.mv.length:=yX _ _
attribute [local irreducible] Wc Ew Vk Iy Yp W1
def g0q (a b:Aut) (ha:OkA a) (hb:OkA b) (ht:b.types=a.types) (p q:Int) (hp:inS a p) (hq:inS b q) (l:Nat) {z8:Nat} {sl':List (Nat×AV)} {ps:List Tmp} {asg body:Code} (y4:ps.length=1) (y5:(ps.all λp=>decide (p<z8))=true)
  (Inv:List Stp->List AObj->Prop) (Done:Code->List AObj->Prop) (H0:List AObj)
  (hI:∀k H,Inv k H->H[l]?=some (.lp true none z8 sl' ps asg body))
  (z7:∀k H L,Inv k H->Inv k (H++L))
  (zb:∀pre e post H,W1 a b (p,q)=pre++e::post->Inv pre H->H0.length<=H.length->AWP prog z8 H.length asg (P0 (AWP prog z8 H.length body (Nk l (λjm K2=>(jm=none/\Inv (pre++[e]) (K2.set l (.lp true none z8 sl' ps asg body))/\∀i cs,H0.length<=i->H[i]?=some (.vars cs)->(K2.set l (.lp true none z8 sl' ps asg body))[i]?=some (.vars cs))\/∃c,jm=some c/\Done c (K2.set l (.lp false (some c) z8 sl' ps asg body))))) (λ_ _=>False)) ⟨E7 sl' ps [Er e],H.set l .dead⟩)
  (h0:Inv [] H0):FC prog 142 [.yld l,.iptr (Wl a),.iptr [.i p],.iptr (Wl b),.iptr [.i q]] H0 (λ_ H'=>Inv (W1 a b (p,q)) H'\/∃c,Done c H'):=by
 refine fcB func142 results142 ntmps142 ?_;simp only[Qf];have zk:=Cv hp;have zl:=Cv hq;have yv:=Pu hp;have yw:=Pu hq;have y6:=F8 a p;have y7:=F8 b q;have yx:=ha.mvs;have yy:=hb.mvs;have y8:=hp.1;have y9:=hq.1;have ya:(Yp a).length=a.fin.length:=by unfold Yp;simp
 have yb:(Yp b).length=b.fin.length:=by unfold Yp;simp
 have yc:=hp.2;have yd:=hq.2;simp only[Wl,Ys]at zk zl |-;have zn:∀hh,(Yp a)[p.toNat]'hh= .list ((Wc a p).map encMv):=λhh=>by rw[zI hh]at zk;exact Option.some.inj zk
 have zo:∀hh,(Yp b)[q.toNat]'hh= .list ((Wc b q).map encMv):=λhh=>by rw[zI hh]at zl;exact Option.some.inj zl
 repeat(refine s_ ?_;simp[zk,zn,y8,yc,ya])
 have ye:(b.types).toNat=a.types.toNat:=by rw[ht]
 refine Qj (Qc (sl':=[(0,.yld l),(1,.iptr [.i a.types,.list (a.fin.map .bool),.list (a.mv.map encMv),.list (Yp a)]),(2,.iptr [.i p]),(3,.iptr [.i b.types,.list (b.fin.map .bool),.list (b.mv.map encMv),.list (Yp b)]),(4,.iptr [.i q]),(16,.list ((Wc a p).map encMv)),(17,.i (Wc a p).length),(18,.i (0:Nat))]) ?_ (by simp));have zp:Iy a b (p,q) (Wc a p).length=W1 a b (p,q):=Ns a b (p,q);have zg:=λi h=>x0o a b (p,q) (i:=i) h;have zc:=λm j h=>y1l b q m (j:=j) h;have zh:=λm j=>v1y b q m j;have zi:=λi=>w1p a b (p,q) i;have hz:Iy a b (p,q) 0=[]:=v02 a b (p,q);have yf:∀m,Vk b q m 0=[]:=λm=>f05 b q m;refine Qi (F:=λ(u:Nat×List AObj)=>⟨[(0,.yld l),(1,.iptr [.i a.types,.list (a.fin.map .bool),.list (a.mv.map encMv),.list (Yp a)]),(2,.iptr [.i p]),(3,.iptr [.i b.types,.list (b.fin.map .bool),.list (b.mv.map encMv),.list (Yp b)]),(4,.iptr [.i q]),(16,.list ((Wc a p).map encMv)),(17,.i (Wc a p).length),(18,.i u.1)],u.2⟩)
  (λu=>u.1<=(Wc a p).length/\Inv (Iy a b (p,q) u.1) u.2/\H0.length<=u.2.length) (λu=>(Wc a p).length - u.1) ?_ (0,H0) ⟨by simp,by rw[hz];exact h0,zR _⟩
 rintro⟨i,H⟩ ⟨hi,hv,zw⟩ ih;simp only at hi hv zw ih |-;repeat(refine s_ ?_;simp)
 refine Qb rfl (λyg=>?_) (λyh=>?_)
 ·have za:i<(Wc a p).length:=by simpa using yg
  have hw:=wz i (by omega);have zy:=zg i za;obtain⟨yi,yj⟩:=q0c ha (zL za);have yk:∃r,W1 a b (p,q)=(Iy a b (p,q) i++Vk b q (Wc a p)[i] (Wc b q).length)++r:=by obtain⟨r,hr⟩:=zi (i+1);exact⟨r,by rw[hr,zy]⟩
  have zd:((Wc a p).map encMv)[i]?=some (encMv (Wc a p)[i]):=by simp[za]
  have ze:∀hh,((Wc a p).map encMv)[i]'hh=encMv (Wc a p)[i]:=λhh=>by simp
  have zz:=λH'=>ih (i+1,H');simp only[zy]at zz;generalize (Wc a p)[i]=m at *
  have yl:=zc m;have ym:=zh m;have yn:=yf m;simp only[encMv]at zd ze;have zq:=z7 _ H [.vars [.i m.src,.i m.dst,.list (m.on.map encL)]] hv;repeat(refine s_ ?_;simp[zl,zo,y9,yd,yb,zd,ze,za])
  refine Q4 λZ hZ=>?_;have zx:Z[H.length]?=some (.vars [.i m.src,.i m.dst,.list (m.on.map encL)]):=by rw[hZ,zH (by simp)];simp
  rw[<-hZ]at zq;clear hZ hv zd ze;generalize H.length=x at *;clear H;refine Qj (Qc (sl':=[(0,.yld l),(1,.iptr [.i a.types,.list (a.fin.map .bool),.list (a.mv.map encMv),.list (Yp a)]),(2,.iptr [.i p]),(3,.iptr [.i b.types,.list (b.fin.map .bool),.list (b.mv.map encMv),.list (Yp b)]),(4,.iptr [.i q]),(7,.vptr x 0),(16,.list ((Wc a p).map encMv)),(17,.i (Wc a p).length),(18,.i i),(26,.list ((Wc b q).map encMv)),(27,.i (Wc b q).length),(28,.i (0:Nat))]) ?_ (by simp))
  refine Qi (F:=λ(u:Nat×List AObj)=>⟨[(0,.yld l),(1,.iptr [.i a.types,.list (a.fin.map .bool),.list (a.mv.map encMv),.list (Yp a)]),(2,.iptr [.i p]),(3,.iptr [.i b.types,.list (b.fin.map .bool),.list (b.mv.map encMv),.list (Yp b)]),(4,.iptr [.i q]),(7,.vptr x 0),(16,.list ((Wc a p).map encMv)),(17,.i (Wc a p).length),(18,.i i),(26,.list ((Wc b q).map encMv)),(27,.i (Wc b q).length),(28,.i u.1)],u.2⟩)
   (λu=>u.1<=(Wc b q).length/\Inv (Iy a b (p,q) i++Vk b q m u.1) u.2/\u.2[x]?=some (.vars [.i m.src,.i m.dst,.list (m.on.map encL)])) (λu=>(Wc b q).length - u.1) ?_ (0,Z) ⟨by simp,by rw[yn,xG];exact zq,zx⟩
  clear zx zq;clear Z;rintro⟨j,G⟩ ⟨hj,gv,gx⟩ ih2;simp only at hj gv gx ih2 |-;repeat(refine s_ ?_;simp)
  refine Qb rfl (λzr=>?_) (λzt=>?_)
  ·have z1:j<(Wc b q).length:=by simpa using zr
   have y0:=wz j (by omega);have y1:=yl j z1;obtain⟨yo,yp⟩:=q0c hb (zL z1);obtain⟨r1,zm⟩:=ym (j+1);obtain⟨r2,yq⟩:=yk;have zd:((Wc b q).map encMv)[j]?=some (encMv (Wc b q)[j]):=by simp[z1]
   have ze:∀hh,((Wc b q).map encMv)[j]'hh=encMv (Wc b q)[j]:=λhh=>by simp
   have z6:=λH'=>ih2 (j+1,H');rw[y1]at zm;simp only[y1]at z6;generalize (Wc b q)[j]=n at *;simp only[encMv]at zd ze
   have zf:∀M,(G++M)[x]?=some (.vars [.i m.src,.i m.dst,.list (m.on.map encL)]):=λM=>Qa gx M;have zu:∀M hh,(G++M)[x]'hh= .vars [.i m.src,.i m.dst,.list (m.on.map encL)]:=λM hh=>(zY hh).2 (zf M);repeat(refine s_ ?_;simp[zd,ze,z1,zf,zu])
   refine pcL (Sa a.types.toNat m.on n.on yi (by rw[<-ye];exact yo) (λs hs=>by have:=yj s hs;omega) (λs hs=>by have:=yp s hs;omega) (by have:=ha.types;omega)) ?_;simp;cases hx:Ew m.on n.on with
   |none=>
    rw[hx]at zm z6;simp only[xG]at z6;simp[Jk,encSy];repeat(refine s_ ?_;simp[zf,zu])
    refine Wi rfl rfl ?_;simp;repeat(refine s_ ?_;simp)
    refine Qb rfl (λh=>by cases h) (λ_=>?_);repeat(refine s_ ?_;simp[y0])
    refine Qc (sl':=[(0,.yld l),(1,.iptr [.i a.types,.list (a.fin.map .bool),.list (a.mv.map encMv),.list (Yp a)]),(2,.iptr [.i p]),(3,.iptr [.i b.types,.list (b.fin.map .bool),.list (b.mv.map encMv),.list (Yp b)]),(4,.iptr [.i q]),(7,.vptr x 0),(16,.list ((Wc a p).map encMv)),(17,.i (Wc a p).length),(18,.i i),(26,.list ((Wc b q).map encMv)),(27,.i (Wc b q).length),(28,.i (j+1:Nat))]) ?_ (by simp);exact z6 _ ⟨by omega,z7 _ _ _ gv,zf _⟩ (by omega)
   |some y=>
    rw[hx]at zm z6;simp[Jk,encSy];repeat(refine s_ ?_;simp[zf,zu])
    have y2:=z7 _ G [.vars [.i n.src,.i n.dst,.list (n.on.map encL)],.vars [.i y.ty,.i y.num]] gv;have y3:=zf [.vars [.i n.src,.i n.dst,.list (n.on.map encL)],.vars [.i y.ty,.i y.num]];have yr:H0.length<=(G++[AObj.vars [.i n.src,.i n.dst,.list (n.on.map encL)],AObj.vars [.i y.ty,.i y.num]]).length:=by have:=Qe y3;omega
    have i1:=hI _ _ y2;have yt:=zb (Iy a b (p,q) i++Vk b q m j) (y,(m.dst,n.dst)) (r1++r2) _ (by rw[yq,zm];simp) y2 yr;generalize G++[AObj.vars [.i n.src,.i n.dst,.list (n.on.map encL)],AObj.vars [.i y.ty,.i y.num]]=Y at *;refine Rn rfl rfl (q:=l) rfl rfl i1 y4 y5 rfl (λjm K2=>(jm=none/\Inv (Iy a b (p,q) i++Vk b q m j++[(y,(m.dst,n.dst))]) (K2.set l (.lp true none z8 sl' ps asg body))/\∀i cs,H0.length<=i->Y[i]?=some (.vars cs)->(K2.set l (.lp true none z8 sl' ps asg body))[i]?=some (.vars cs))\/∃c,jm=some c/\Done c (K2.set l (.lp false (some c) z8 sl' ps asg body))) ?_ ?_
    ·exact yt
    rintro jm K2 (⟨rfl,hK,yu⟩|⟨c,rfl,hD⟩)
    ·simp;repeat(refine s_ ?_;simp)
     refine Qb rfl (λh=>by cases h) (λ_=>?_);repeat(refine s_ ?_;simp[y0])
     refine Qc (sl':=[(0,.yld l),(1,.iptr [.i a.types,.list (a.fin.map .bool),.list (a.mv.map encMv),.list (Yp a)]),(2,.iptr [.i p]),(3,.iptr [.i b.types,.list (b.fin.map .bool),.list (b.mv.map encMv),.list (Yp b)]),(4,.iptr [.i q]),(7,.vptr x 0),(16,.list ((Wc a p).map encMv)),(17,.i (Wc a p).length),(18,.i i),(26,.list ((Wc b q).map encMv)),(27,.i (Wc b q).length),(28,.i (j+1:Nat))]) ?_ (by simp);exact z6 _ ⟨by omega,by rw[<-xQ];exact hK,yu x _ zw y3⟩ (by omega)
    simp;repeat(refine s_ ?_;simp)
    refine Qb rfl (λ_=>?_) (λh=>by cases h);repeat(refine s_ ?_;simp)
    exact .inr ⟨c,hD⟩
  have zj:j=(Wc b q).length:=by simp at zt;omega
  subst zj;repeat(refine s_ ?_;simp[hw])
  refine Qc (sl':=[(0,.yld l),(1,.iptr [.i a.types,.list (a.fin.map .bool),.list (a.mv.map encMv),.list (Yp a)]),(2,.iptr [.i p]),(3,.iptr [.i b.types,.list (b.fin.map .bool),.list (b.mv.map encMv),.list (Yp b)]),(4,.iptr [.i q]),(16,.list ((Wc a p).map encMv)),(17,.i (Wc a p).length),(18,.i (i+1:Nat))]) ?_ (by simp);exact zz G ⟨by omega,gv,by have:=Qe gx;omega⟩ (by omega)
 have zv:i=(Wc a p).length:=by simp at yh;omega
 subst zv;rw[zp]at hv;repeat(refine s_ ?_;simp)
 exact .inl hv
end
attribute [simp] g2h g2i
def Ab(a b:Int):Int:=if a<b then -1 else if b<a then 1 else 0
def orE(x y:Int):Int:=if x≠0 then x else y
def q19(a:Int):PC prog 200 [.i a] (λr=>r= .bool false):=by refine pcB func200 results200 ntmps200 ?_;simp only[Qf];repeat(refine s_ ?_;simp)
def Zv(a b:Int):PC prog 133 [.i a,.i b] (λr=>r= .i (Ab a b)):=by
 refine pcB func133 results133 ntmps133 ?_;simp only[Qf];repeat(refine s_ ?_;simp)
 refine pcL (q19 a) ?_;simp;repeat(refine s_ ?_;simp)
 refine pcL (q19 b) ?_;simp;repeat(refine s_ ?_;simp)
 refine Qr rfl ?_;repeat(refine s_ ?_;simp)
 refine Qr rfl ?_;repeat(refine s_ ?_;simp)
 refine Qb rfl (λh=>?_) (λh=>?_)
 ·repeat(refine s_ ?_;simp)
  rw[Ab,if_pos (by simpa using h)]
 repeat(refine s_ ?_;simp)
 refine Qb rfl (λh1=>?_) (λh1=>?_)
 ·repeat(refine s_ ?_;simp)
  rw[Ab,if_neg (by simpa using h),if_pos (by simpa using h1)]
 repeat(refine s_ ?_;simp)
 rw[Ab,if_neg (by simpa using h),if_neg (by simpa using h1)]
def d1g(x y:Int):PC prog 132 [LI [x,y]] (λr=>r= .i (orE x y)):=by
 refine pcB func132 results132 ntmps132 ?_;simp only[Qf];have w1:IntKind.i64.wrap 1=1:=by decide
 have w2:IntKind.i64.wrap 2=2:=by decide
 repeat(refine s_ ?_;simp)
 refine Wf 2 (λj=>j=0\/x=0/\(j=1\/y=0)) (λj=>[(3,.i 0),(6,LI [x,y]),(7,.i (2:Nat)),(8,.i j)]) (λ_=>[]) rfl (by simp) (by simp) (by simp) (by simp) (.inl rfl) ?_;intro j hj hI ih;repeat(refine s_ ?_;simp)
 refine Qb rfl (λz8=>?_) (λza=>?_)
 ·have z1:j<2:=by simp at z8;omega
  have hw:=wz j (by omega);obtain rfl|rfl:j=0\/j=1:=by omega
  ·repeat(refine s_ ?_;simp)
   refine Qb rfl (λh=>?_) (λh=>?_)
   ·repeat(refine s_ ?_;simp)
    rw[orE,if_pos (by simpa using h)]
   have h0:x=0:=by simpa using h
   repeat(refine s_ ?_;simp[w1])
   refine Wd _ (ih z1 (.inr ⟨h0,.inl rfl⟩)) rfl (by simp) ?_ (by simp) (by simp);simp
  have hx:x=0:=by rcases hI with h|h;exact absurd h (by decide);exact h.1
  repeat(refine s_ ?_;simp)
  refine Qb rfl (λh=>?_) (λh=>?_)
  ·repeat(refine s_ ?_;simp)
   rw[orE,if_neg (by simpa using hx)]
  have h0:y=0:=by simpa using h
  repeat(refine s_ ?_;simp[w2])
  refine Wd _ (ih z1 (.inr ⟨hx,.inr h0⟩)) rfl (by simp) ?_ (by simp) (by simp);simp
 have z6:j=2:=by simp at za;omega
 subst z6;have z7:x=0/\y=0:=by
  rcases hI with h|⟨h1,h2⟩
  ·exact absurd h (by decide)
  exact⟨h1,h2.elim (λh=>absurd h (by decide)) id⟩
 repeat(refine s_ ?_;simp)
 rw[orE,z7.1,z7.2];rfl
def u2x(x y:Sy):Int:=orE (Ab x.ty y.ty) (Ab x.num y.num)
def M8(x y:Stp):Int:=u2x x.1 y.1
def w0x(x y:Int×Int):Int:=orE (Ab x.1 y.1) (Ab x.2 y.2)
def y29(x y:Int×Int):Bool:=decide (x.1<y.1) || (decide (x.1=y.1) && decide (x.2<y.2))
def d1i(a b c d:Int):decide (orE (Ab a b) (Ab c d)<0)=(decide (a<b) || (decide (a=b) && decide (c<d))):=by
 rw[Bool.eq_iff_iff];simp only[decide_eq_true_eq,wV,yF];unfold orE Ab;by_cases h1:a<b
 ·simp[h1]
 by_cases h2:b<a
 ·rw[if_neg h1,if_pos h2];simp;omega
 rw[if_neg h1,if_neg h2];have h3:a=b:=by omega
 simp[h3];by_cases h4:c<d
 ·simp[h4]
 by_cases h5:d<c
 ·simp[h4,h5]
 simp[h4,h5]
def u0v(x y:Sy):PC prog 197 [encSy x,encSy y] (λr=>r= .i (u2x x y)):=by
 refine pcB func197 results197 ntmps197 ?_;simp only[Qf];simp only[encSy];repeat(refine s_ ?_;simp)
 refine Qo tOk mixed [] (.val 0 (.val 1 (.val 2 (.val 3 (.val 5 (.val 6 (.val 7 (.val 8 (.one 4 (.one 9 (.one 10 (.one 11 (.val 12 (.done)))))))))))))) rfl (by kernel_rfl) ?_;simp;refine pcL (Zv x.ty y.ty) ?_;simp;refine pcL (Zv x.num y.num) ?_;simp;refine D9 rfl rfl (by first|(simp;done)|(simp;rfl)) (d1g (Ab x.ty y.ty) (Ab x.num y.num)) rfl ?_;rintro _ rfl;refine⟨by first|simp|rfl|trivial,?_⟩;simp;repeat(refine s_ ?_;simp)
 rfl
def k1o(x y:Stp):PC prog 196 [Er x,Er y] (λr=>r= .i (M8 x y)):=by
 refine pcB func196 results196 ntmps196 ?_;simp only[Qf];simp only[Er];repeat(refine s_ ?_;simp)
 refine pcL (u0v x.1 y.1) ?_;simp;repeat(refine s_ ?_;simp)
 rfl
def k15(x y:Int×Int):PC prog 131 [pqr x,pqr y] (λr=>r= .i (w0x x y)):=by
 refine pcB func131 results131 ntmps131 ?_;simp only[Qf];simp only[pqr];repeat(refine s_ ?_;simp)
 refine Qo tOk mixed [] (.val 0 (.val 1 (.val 2 (.val 3 (.val 5 (.val 6 (.val 7 (.val 8 (.one 4 (.one 9 (.one 10 (.one 11 (.val 12 (.done)))))))))))))) rfl (by kernel_rfl) ?_;simp;refine pcL (Zv x.1 y.1) ?_;simp;refine pcL (Zv x.2 y.2) ?_;simp;refine D9 rfl rfl (by first|(simp;done)|(simp;rfl)) (d1g (Ab x.1 y.1) (Ab x.2 y.2)) rfl ?_;rintro _ rfl;refine⟨by first|simp|rfl|trivial,?_⟩;simp;repeat(refine s_ ?_;simp)
 rfl
open Go.Shelf Go.Lib Go.Sort in
def z07(x y:Stp):ltOf M8 x y=Kx x.1 y.1:=d1i ..
open Go.Shelf Go.Lib Go.Sort in
def z03(x y:Int×Int):ltOf w0x x y=y29 x y:=d1i ..
def g1w{α:Type}(f g:α->Int):Go.Sort.SWO (λx y=>decide (f x<f y) || (decide (f x=f y) && decide (g x<g y))) where
 irrefl x:=by simp
 trans x y z h1 h2:=by simp only[wV,yF,decide_eq_true_eq]at *;omega
 ntrans x y z h1 h2:=by rw[<-uz]at *;simp only[wV,yF,decide_eq_true_eq]at *;omega
open Go.Shelf Go.Lib Go.Sort in
def d09:SWO (ltOf M8):=by
 have h:ltOf M8=λx y:Stp=>decide (x.1.ty<y.1.ty) || (decide (x.1.ty=y.1.ty) && decide (x.1.num<y.1.num)):=by funext x y;exact z07 x y
 rw[h];exact g1w (λx:Stp=>x.1.ty) (λx:Stp=>x.1.num)
open Go.Shelf Go.Lib Go.Sort in
def j0l:SWO (ltOf w0x):=by
 have h:ltOf w0x=λx y:Int×Int=>decide (x.1<y.1) || (decide (x.1=y.1) && decide (x.2<y.2)):=by funext x y;exact z03 x y
 rw[h];exact g1w (λx:Int×Int=>x.1) (λx:Int×Int=>x.2)
end Go.Abs
namespace Go.Proofs
open Go.Shelf
def Tryz.sortLd_ren:Go.Shelf.Ren:=⟨λ|6=>195|15=>199|14=>235|28=>244|29=>245|20=>283|21=>284|22=>285|23=>286|24=>287|25=>288|26=>289|27=>290|46=>313|47=>292|48=>293|49=>314|50=>315|57=>324|n=>n,λ|22=>245|24=>184|25=>252|3=>3|39=>189|0=>0|53=>255|55=>258|4=>4|46=>291|45=>290|50=>112|5=>5|9=>9|66=>327|70=>331|76=>349|77=>350|n=>n,λ|n=>n⟩
def Tryz.sortLd:Go.Proofs.SlLaysF0.n6 prog Tryz.sortLd_ren:={
 mixed:=by kernel_rfl
 f6:=⟨Tryz.f195.name,by decide,func195.trans (congrArg some (by kernel_rfl))⟩
 f14:=⟨Tryz.f235.name,by decide,func235.trans (congrArg some (by kernel_rfl))⟩
 f15:=func199.trans (congrArg some (by kernel_rfl))
 f20:=⟨Tryz.f283.name,by decide,func283.trans (congrArg some (by kernel_rfl))⟩
 f21:=⟨Tryz.f284.name,by decide,func284.trans (congrArg some (by kernel_rfl))⟩
 f22:=⟨Tryz.f285.name,by decide,func285.trans (congrArg some (by kernel_rfl))⟩
 f23:=⟨Tryz.f286.name,by decide,func286.trans (congrArg some (by kernel_rfl))⟩
 f24:=⟨Tryz.f287.name,by decide,func287.trans (congrArg some (by kernel_rfl))⟩
 f25:=⟨Tryz.f288.name,by decide,func288.trans (congrArg some (by kernel_rfl))⟩
 f26:=⟨Tryz.f289.name,by decide,func289.trans (congrArg some (by kernel_rfl))⟩
 f27:=⟨Tryz.f290.name,by decide,func290.trans (congrArg some (by kernel_rfl))⟩
 f28:=func244.trans (congrArg some (by kernel_rfl))
 f29:=func245.trans (congrArg some (by kernel_rfl))
 f46:=⟨Tryz.f313.name,by decide,func313.trans (congrArg some (by kernel_rfl))⟩
 f47:=func292.trans (congrArg some (by kernel_rfl))
 f48:=func293.trans (congrArg some (by kernel_rfl))
 f49:=⟨Tryz.f314.name,by decide,func314.trans (congrArg some (by kernel_rfl))⟩
 f50:=⟨Tryz.f315.name,by decide,func315.trans (congrArg some (by kernel_rfl))⟩
 f57:=⟨Tryz.f324.name,by decide,func324.trans (congrArg some (by kernel_rfl))⟩
 t0:=underlying0
 a0:=isAgg0
 z0:=sizeOf0
 v0:=zeroValue0
 t3:=underlying3
 a3:=isAgg3
 z3:=sizeOf3
 v3:=zeroValue3
 t4:=underlying4
 a4:=isAgg4
 z4:=sizeOf4
 v4:=zeroValue4
 t5:=underlying5
 a5:=isAgg5
 z5:=sizeOf5
 v5:=zeroValue5
 t9:=underlying9
 a9:=isAgg9
 z9:=sizeOf9
 v9:=zeroValue9
 t22:=underlying245
 a22:=isAgg245
 z22:=sizeOf245
 v22:=zeroValue245
 t25:=underlying252
 a25:=isAgg252
 z25:=sizeOf252
 v25:=zeroValue252
 t39:=underlying189
 a39:=isAgg189
 z39:=sizeOf189
 v39:=zeroValue189
 t45:=underlying290
 a45:=isAgg290
 z45:=sizeOf290
 v45:=zeroValue290
 t46:=underlying291
 a46:=isAgg291
 z46:=sizeOf291
 v46:=zeroValue291
 t50:=underlying112
 a50:=isAgg112
 z50:=sizeOf112
 v50:=zeroValue112
 t53:=underlying255
 a53:=isAgg255
 z53:=sizeOf255
 v53:=zeroValue255
 t55:=underlying258
 a55:=isAgg258
 z55:=sizeOf258
 v55:=zeroValue258
 t66:=underlying327
 a66:=isAgg327
 z66:=sizeOf327
 v66:=zeroValue327
 t70:=underlying331
 a70:=isAgg331
 z70:=sizeOf331
 v70:=zeroValue331
 t76:=underlying349
 a76:=isAgg349
 z76:=sizeOf349
 v76:=zeroValue349
 t77:=underlying350
 a77:=isAgg350
 z77:=sizeOf350
 v77:=zeroValue350 }
end Go.Proofs
namespace Go.Abs
open Go Go.Proofs Go.RowKit
section
open Go.Shelf Go.Lib Go.Sort
def Pg{w:World}{I:Nat->Prop}{v:Value}{k:IntKind}{n:Int}(h:PVR w I v (.int k n)):v= .int k n:=by cases h;rfl
def A1(x:Stp):List Value:=[.int .i64 x.1.ty,.int .i64 x.1.num,.int .i64 x.2.1,.int .i64 x.2.2]
def k25(x y:Stp):ltOf M8 x y=Kx x.1 y.1:=z07 x y
def u2g{w:World}{I:Nat->Prop}{l:List (Stp)}{F:Array Value}(hR:RowW w I 4 (l.map Er) F):flatK A1 4 l.toArray=F:=by
 have z1:F.size=l.length * 4:=by have:=hR.size;simpa using this
 refine ext_get! (by simp[z1]) λt ht=>?_;have z6:t<l.length * 4:=by simpa using ht
 rw[get_flatK _ _ _ _ (by simpa using z6)];have hi:t / 4<l.length:=by omega
 rw[getElem!_pos l.toArray _ (by simpa using hi)];have hx:(l.map Er)[t / 4]?=some (Er l[t / 4]):=by simp[hi]
 have c0:=Pg (hR.cell _ _ hx 0 _ rfl);have c1:=Pg (hR.cell _ _ hx 1 _ rfl);have c2:=Pg (hR.cell _ _ hx 2 _ rfl);have c3:=Pg (hR.cell _ _ hx 3 _ rfl);have e0:l.toArray[t / 4]'(by simpa using hi)=l[t / 4]:=by simp
 rw[e0];have hm:t % 4=0\/t % 4=1\/t % 4=2\/t % 4=3:=by omega
 rcases hm with h|h|h|h<;>rw[h]
 ·have e1:t / 4 * 4+0=t:=by omega
  rw[e1]at c0;rw[c0];rfl
 ·have e1:t / 4 * 4+1=t:=by omega
  rw[e1]at c1;rw[c1];rfl
 ·have e1:t / 4 * 4+2=t:=by omega
  rw[e1]at c2;rw[c2];rfl
 have e1:t / 4 * 4+3=t:=by omega
 rw[e1]at c3;rw[c3];rfl
def c0e(H:List AObj)(p:Nat)(l:List (Stp))(hp:H[p]?=some (.arr 184 4 (l.map Er)))(hl:l.length<=100000000):
  FC prog 195 [.sl p 4 0 l.length,.fn (.func 196) [] []] H
   (λr H'=>r= .tup []/\∃l':List (Stp),l'.Perm l/\l'.Pairwise (λx y=>Kx y.1 x.1=false)/\H'=H.set p (.arr 184 4 (l'.map Er))):=by
 refine(q0r (xs:=l.map Er) (R3 func195 rfl rfl) (by simp) hp [.func (.func 196) #[] #[]] (λw I m vs a b=>H9 _ w I m _ vs a b) (λz8=>∃l':List (Stp),l'.Perm l/\l'.Pairwise (λx y=>Kx y.1 x.1=false)/\z8=l'.map Er) ?_ ?_).mono ?_
 ·intro w I b cap F hE hI zc hR hH hb hc;by_cases z6:l=[]
  ·subst z6;refine Calls.mono (AnyF.slices_SortFunc_none Tryz.sortLd (some ⟨b,0,none⟩) cap _ w) ?_;rintro e w' ⟨rfl,rfl⟩;refine⟨rfl,[],F,0,#[],⟨[],.refl _,.nil,rfl⟩,rfl,hR,?_⟩;rw[grow_empty];exact(putRow_self id w' b 0 F hH).symm
  have zd:0<l.length:=uK.2 z6;have eg:∀args w,(callFunc 196 args).run prog w= .ok (.enter 196 args) w:=enters_of func196 (by kernel_rfl) rfl;have ze:=u2g hR;have zf:HoldsK A1 4 w b 0 l.toArray:=by unfold HoldsK;rw[ze];exact hH
  have z7:CmpLays prog 196 #[] A1 4 M8 b 0 l.toArray.size w:=λq os dk hs x y=>by
   have hW:∀c,I c->(sortWorldK A1 4 w b 0 q dk os).heap[c]? =w.heap[c]? :=λc za=>by have zg:=hI c za;have zh:b≠c:=λe=>zc (e▸za);simp only[sortWorldK,grow,putRowK,putRow,mapBlock,Sort.ahead];rw[yT (by simpa using zg),wR,if_neg zh]
   have zb:∀z:Stp,PVR w I (.agg (A1 z).toArray) (Er z):=λz=>by
    refine .agg _ _ (by simp[A1]) λi v x' hv z1=>?_
    match i,hv,z1 with
    |0,hv,z1=>simp[A1]at hv z1;subst hv z1;exact .int _ _
    |1,hv,z1=>simp[A1]at hv z1;subst hv z1;exact .int _ _
    |2,hv,z1=>simp[A1]at hv z1;subst hv z1;exact .int _ _
    |3,hv,z1=>simp[A1]at hv z1;subst hv z1;exact .int _ _
    |k+4,hv,z1=>simp[A1]at hv
   refine(k1o x y).laid hE hI hW (by simp) λi v x' hv z1=>?_
   match i,hv,z1 with
   |0,hv,z1=>simp at hv z1;subst hv z1;exact zb x
   |1,hv,z1=>simp at hv z1;subst hv z1;exact zb y
  have:=AnyQ.slices_SortFunc Tryz.sortLd 4 isAgg184 sizeOf184 A1 (λ_=>rfl) (λx v hv=>by simp[A1]at hv;rcases hv with rfl|rfl|rfl|rfl<;>rfl) M8 d09 196 #[] b 0 cap l.toArray w eg z7 zf hb (by simp;omega);rw[show(l.toArray).size=l.length by simp]at this;refine Calls.mono this ?_;rintro e w' ⟨rfl,d',n,os,h1,h2,rfl⟩;obtain⟨s1,_,s3⟩:=h1;have hs:d'.toList.length=l.length:=by simpa using s1
  refine⟨rfl,d'.toList.map Er,flatK A1 4 d',n,os,⟨d'.toList,?_,?_,rfl⟩,by simp[hs],⟨by simp,λx hx=>?_,λi x hx j y hy=>?_⟩,rfl⟩
  ·rw[show d'.extract 0 l.length=d' by simp[<-hs],show l.toArray.extract 0 l.length=l.toArray by simp]at s3;simpa using s3
  ·refine yL.2 λi j hi hj zi=>?_;have:=h2 i j (xI _) zi (by omega);rw[k25,getElem!_pos d' i (by simpa using hi),getElem!_pos d' j (by simpa using hj)]at this;simpa using this
  ·obtain⟨z,_,rfl⟩:=zQ.1 hx;rfl
  rw[zS]at hx;obtain⟨z,hz,rfl⟩:=zP.1 hx;obtain⟨hi,rfl⟩:=zB.1 hz;have hj:j<4:=(zB.1 hy).1;have zj:i<d'.size:=by simpa using hi
  rw[get_flatK _ _ _ _ (by omega)];rw[show(i * 4+j) / 4=i by omega,show(i * 4+j) % 4=j by omega];rw[getElem!_pos d' i zj]
  match j,hj,hy with
  |0,_,hy=>simp[Er,AV.cells]at hy;subst hy;exact .int _ _
  |1,_,hy=>simp[Er,AV.cells]at hy;subst hy;exact .int _ _
  |2,_,hy=>simp[Er,AV.cells]at hy;subst hy;exact .int _ _
  |3,_,hy=>simp[Er,AV.cells]at hy;subst hy;exact .int _ _
 ·rintro h;have z6:l=[]:=by
   cases l with
   |nil=>rfl
   |cons x r=>simp at h
  subst z6;exact⟨⟨[],.refl _,.nil,rfl⟩,λw=>AnyF.slices_SortFunc_none Tryz.sortLd none 0 _ w⟩
 rintro r H' ⟨rfl,z8,⟨l',h1,h2,rfl⟩,rfl⟩;exact⟨rfl,l',h1,h2,rfl⟩
end
section
open Go.Maps
def w04:(prog).underlying 66=some (.array 2 3):=by kernel_rfl
def y24:(prog).underlying 3=some (.int .i64):=by kernel_rfl
def z0s:(prog).cellsOf 66=2:=by kernel_rfl
def j0r:(prog).cellsOf 3=1:=by kernel_rfl
def q2x:(prog).keyType 66=true:=by kernel_rfl
def g0v:laidOutB prog=true:=by kernel_rfl
def w23:(prog).keyTypeAt 3 66=true:=by kernel_rfl
def f1r:66<(prog).types.size:=of_decide_eq_true (by kernel_rfl)
def Xw:Keyed prog 66:=Keyed.of_law (deep_law_laid g0v (m:=3) (by decide) f1r w23 (by rw[w04]))
def kyP(s:Int×Int):AV:= .agg [.i s.1,.i s.2]
def okK(s:Int×Int):Prop:=(0<=s.1/\s.1<=1000000)/\(0<=s.2/\s.2<=1000000)
def d0k{s t:Int×Int}(h:kyP s=kyP t):s=t:=by unfold kyP at h;simp at h;exact Prod.ext h.1 h.2
def keyLits_int(d:Nat){z:Int}(h:0<=z/\z<=1000000):(prog).keyLits (d+1) 3 [.int .i64 z]=some [.int .i64 z]:=by unfold Program.keyLits;rw[y24];simp[d1n h]
def v0k(d:Nat){s:Int×Int}(h:okK s):(prog).keyLits (d+2) 66 [.int .i64 s.1,.int .i64 s.2]=some [.int .i64 s.1,.int .i64 s.2]:=by unfold Program.keyLits;rw[w04];simp only[z0s,j0r,yW,tV,if_true];have h1:=keyLits_int d h.1;have h2:=keyLits_int d h.2;simp[wU,h1,h2]
def types_size:∃d,(prog).types.size+1=d+2:=⟨(prog).types.size - 1,by have:=f1r;omega⟩
def Gq{s:Int×Int}(h:okK s):isKey prog 66 (kyP s):=by
 refine⟨.agg #[.int .i64 s.1,.int .i64 s.2],.string (keyBytes [.int .i64 s.1,.int .i64 s.2]),rfl,?_⟩;obtain⟨d,hd⟩:=types_size;unfold keyOf;rw[w04];simp only;have hf:Value.formed prog 66 (.agg #[.int .i64 s.1,.int .i64 s.2])=true:=by unfold Value.formed;rw[w04,z0s];rfl
 rw[q2x,hf,hd];have:(Value.agg #[.int .i64 s.1,.int .i64 s.2]).cells.toList=[.int .i64 s.1,.int .i64 s.2]:=rfl;rw[this,v0k d h];rfl
abbrev D5:=List ((Int×Int)×Nat)
def kvN(near:D5):List (AV×AV):=near.map λe=>(kyP e.1,.i e.2)
def mpN(near:D5):AObj:= .mp (kvN near)
structure NK (near:D5):Prop where
 nd:(near.map (·.1)).Nodup
 ok:∀e∈near,okK e.1
def q2d{near:D5}(h:NK near){j:Nat}{e:(Int×Int)×Nat}(he:near[j]?=some e):lkN near e.1=some e.2:=by
 unfold lkN;cases hf:near.find? (λe'=>decide (e'.1=e.1))with
 |none=>rw[List.find?_eq_none]at hf;have:=hf e (zJ he);simp at this
 |some e'=>
  have h1:e'.1=e.1:=by simpa using List.find?_some hf
  have h2:=List.mem_of_find?_eq_some hf;obtain⟨i,hi,rfl⟩:=List.getElem_of_mem h2;obtain⟨hj,rfl⟩:=zB.1 he;have h3:i=j:=by have:=(List.getElem_inj (h₀:=by simpa using hi) (h₁:=by simpa using hj) h.nd).1 (by simpa using h1);exact this
  subst h3;rfl
def f03{near:D5}(h:NK near):∀p∈kvN near,isKey prog 66 p.1:=λp hp=>by obtain⟨e,he,rfl⟩:=zQ.1 hp;exact Gq (h.ok e he)
section
variable {nt k:Nat} {S:AS} {ops:Array Oper} {o:Oper} {R:AS->Prop}
def U2 {wr:Bool} (hw:Qs ops S o=some true) (hd:Wm nt o=true) {x ix:Operand} (ho:o.op= .lookup 109 x ix true) {id:Nat} (hx:rho S.sl x=some (.mref id)) {s:Int×Int} (z1:rho S.sl ix=some (.agg [.i s.1,.i s.2])) {near:D5} (z6:S.hp[id]?=some (mpN near)) (hn:NK near) (hs:okK s)
  (hR:R (S.putD o.dst (.tup [.i ((lkN near s).getD 0:Nat),.bool (lkN near s).isSome]))):Q9 prog nt k wr ops o S R:=by
 refine Tm tOk hw hd ho v2f rfl T3 Xw hx z1 z6 (Gq hs) (f03 hn) (z:= .i 0) rfl (λj p hp he=>?_) (λz7=>?_)
 ·unfold kvN at hp;rw[zS]at hp;obtain⟨e,z8,rfl⟩:=zP.1 hp;have za:e.1=s:=d0k he;rw[<-za,q2d hn z8]at hR;exact hR
 have:lkN near s=none:=by rw[F5];intro hm;obtain⟨e,he,rfl⟩:=zQ.1 hm;exact z7 _ (zQ.2 ⟨e,he,rfl⟩) rfl
 rw[this]at hR;exact hR
def Zl (hw:Qs ops S o=some true) (hd:Wm nt o=true) {x ix y:Operand} (ho:o.op= .mapUpdate 109 x ix y) {id:Nat} (hx:rho S.sl x=some (.mref id)) {s:Int×Int} (z1:rho S.sl ix=some (.agg [.i s.1,.i s.2])) {d:Nat} (hy:rho S.sl y=some (.i d)) {near:D5} (z6:S.hp[id]?=some (mpN near)) (hn:NK near) (hs:okK s)
  (z7:s∉near.map (·.1)) (hR:R (({ S with hp:=S.hp.set id (mpN (near++[(s,d)])) }:AS).putD o.dst (.tup []))):Q9 prog nt k true ops o S R:=by
 refine Ei tOk hw hd ho v2f rfl Xw hx z1 hy (by simp[AV.pure]) z6 (Gq hs) (f03 hn) (λj p hp he=>?_) (λzb=>?_)
 ·unfold kvN at hp;rw[zS]at hp;obtain⟨e,z8,rfl⟩:=zP.1 hp;have za:e.1=s:=d0k he;exact absurd (zQ.2 ⟨e,zJ z8,za⟩) z7
 have:kvN near++[(kyP s,.i d)]=kvN (near++[(s,d)]):=by simp[kvN]
 unfold mpN at hR;rw[<-this]at hR;exact hR
end
end
section
open Go.Maps
def f0c{a b:Aut}{i j:Nat}(hi:i<a.fin.length)(hj:j<b.fin.length):Yb a b ((i:Int),(j:Int))=(a.fin[i] != b.fin[j]):=by unfold Yb;simp[List.getD,hi,hj]
def u1f{a b:Aut}(ha:OkA a)(hb:OkA b){s:Int×Int}{e:Sy×(Int×Int)}(he:e∈W1 a b s):inS a e.2.1/\inS b e.2.2:=by obtain⟨m,hm,n,hn,_,rfl⟩:=Dd.1 he;have h1:=(ha.mv m (Rl.1 hm).1).dst;have h2:=(hb.mv n (Rl.1 hn).1).dst;exact⟨⟨h1.1,h1.2⟩,⟨h2.1,h2.2⟩⟩
def B9{a b:Aut}(ha:OkA a)(hb:OkA b){s:Int×Int}(h:inS a s.1/\inS b s.2):okK s:=by have h1:=ha.fin;have h2:=hb.fin;obtain⟨⟨_,_⟩,⟨_,_⟩⟩:=h;unfold okK;omega
attribute [local irreducible] Wc Ew Yp W1 Yb lkN
def u1u(a:Aut)(ha:OkA a)(H:List AObj)(A:Nat)(hA:H[A]?=some (.vars (Wl a)))(p q:Int)(hp:inS a p)(hq:inS a q):
  FC prog 227 [.i p,.i q,.vptr A 0] H (λr H'=>r= .bool (Yb a a (p,q))/\H'=H):=by
 refine fcB func227 results227 ntmps227 ?_;simp only[Qf];obtain⟨i,rfl⟩:∃i:Nat,p=i:=⟨p.toNat,(Pu hp).2.symm⟩
 obtain⟨j,rfl⟩:∃j:Nat,q=j:=⟨q.toNat,(Pu hq).2.symm⟩
 have hi:i<a.fin.length:=by have:=hp.2;omega
 have hj:j<a.fin.length:=by have:=hq.2;omega
 rw[f0c hi hj];simp only[Wl]at hA;repeat(refine s_ ?_;simp)
 refine Qo tOk mixed [] (.val 0 (.val 1 (.val 2 (.val 3 (.val 4 (.val 5 (.val 6 (.val 7 (.val 8 (.val 9 (.val 10 (.val 11 (.val 12 (.val 13 (.done))))))))))))))) rfl (by kernel_rfl) ?_;simp[hA,hi,hj];repeat(refine s_ ?_;simp)
 generalize a.fin[i]=x;generalize a.fin[j]=y;cases x<;>cases y<;>rfl
def Vj(near:D5)(d:Int)(es:List (Sy×(Int×Int))):Bool:=es.any λe=>(lkN near e.2).isSome && decide (((lkN near e.2).getD 0:Nat)=d)
def f0p(near:D5)(d:Int)(pre:List (Sy×(Int×Int)))(e:Sy×(Int×Int)):Vj near d (pre++[e])=(Vj near d pre || ((lkN near e.2).isSome && decide (((lkN near e.2).getD 0:Nat)=d))):=by simp[Vj]
def z19{near:D5}{d:Int}{pre post:List (Sy×(Int×Int))}{e:Sy×(Int×Int)}(h:((lkN near e.2).isSome && decide (((lkN near e.2).getD 0:Nat)=d))=true):Vj near d (pre++e::post)=true:=by unfold Vj;rw[List.any_append,List.any_cons,h];simp
def g1b(near:D5)(d:Int):Vj near d []=false:=rfl
attribute [local irreducible] Vj
def u12(a:Aut)(ha:OkA a)(H:List AObj)(A N M D:Nat)(near:D5)(d:Nat)(hA:H[A]?=some (.vars (Wl a)))(hN:H[N]?=some (.vars [.mref M]))(hM:H[M]?=some (mpN near))(hD:H[D]?=some (.vars [.i d]))(hd:1<=d/\d<=1000000)(zc:NK near)(p q:Int)(hp:inS a p)(hq:inS a q):
  FC prog 228 [.i p,.i q,.vptr A 0,.vptr N 0,.vptr D 0] H (λr H'=>r= .bool (Vj near ((d:Int) - 1) (W1 a a (p,q)))/\∀i,i<H.length->H'[i]? =H[i]?):=by
 refine fcB func228 results228 ntmps228 ?_;simp only[Qf];have zb:=hA;simp only[Wl]at zb;have zm:=Qe hA;have zd:=Qe hN;have ze:=Qe hM;have zf:=Qe hD;have zg:∀L,(H++L)[A]?=some (.vars [.i a.types,.list (a.fin.map .bool),.list (a.mv.map encMv),.list (Yp a)]):=λL=>Qa zb L;repeat(refine s_ ?_;simp[zg])
 refine pcL (x1j a a p q) ?_;simp;repeat(refine s_ ?_;simp)
 refine W5 rfl (Rf:=λ_ H'=>(Vj near ((d:Int) - 1) (W1 a a (p,q))=false/\(∃sl' z1 a' b',H'[H.length+1]?=some (.lp true none 34 sl' z1 a' b'))/\H'[H.length]?=some (.vars [.bool false])/\∀i,i<H.length->H'[i]? =H[i]?)\/
  (Vj near ((d:Int) - 1) (W1 a a (p,q))=true/\(∃sl' z1 a' b',H'[H.length+1]?=some (.lp false (some .ret) 34 sl' z1 a' b'))/\H'[H.length]?=some (.vars [.bool true])/\∀i,i<H.length->H'[i]? =H[i]?)) ?_ ?_
 ·simp;refine Sd λH1 z6=>?_;have f0:H1[H.length]?=some (.vars [.bool false]):=by rw[z6,zH (by omega)];simp
  have fk:∀i,i<H.length->H1[i]? =H[i]? :=λi hi=>by rw[z6,zF hi]
  have fl:=congrArg (λh:List AObj=>h[H.length+1]?) z6;have zn:H1.length=H.length+2:=by rw[z6];simp
  simp at fl;clear z6;refine FC.mono (g0q a a ha ha rfl p q hp hq (H.length+1) (by rfl) (by rfl)
   (λpre H'=>Vj near ((d:Int) - 1) pre=false/\H'[H.length+1]? =H1[H.length+1]? /\H'[H.length]?=some (.vars [.bool false])/\∀i,i<H.length->H'[i]? =H[i]?)
   (λc H'=>c= .ret/\Vj near ((d:Int) - 1) (W1 a a (p,q))=true/\(∃sl' z1 a' b',H'[H.length+1]?=some (.lp false (some .ret) 34 sl' z1 a' b'))/\H'[H.length]?=some (.vars [.bool true])/\∀i,i<H.length->H'[i]? =H[i]?) H1
   (λk H' ⟨_,h2,_,_⟩=>h2.trans fl) ?_ ?_ ⟨g1b _ _,rfl,f0,fk⟩) ?_
  ·rintro k H' L ⟨h1,h2,h3,h4⟩;exact⟨h1,by rw[<-h2,zF (by rw[fl]at h2;exact Qe h2)],Qa h3 _,λi hi=>by rw[zF (by have:=Qe h3;omega)];exact h4 i hi⟩
  ·rintro pre e post H' hst ⟨h1,h2,h3,h4⟩ hlen;simp[E7];have zh:=u1f ha ha (show e∈W1 a a (p,q) by rw[hst];simp);have zi:=B9 ha ha zh;have zo:=Qe (h2.trans fl);have z7:=f0p near ((d:Int) - 1) pre e;have z8:=λh=>z19 (near:=near) (d:=(d:Int) - 1) (pre:=pre) (post:=post) (e:=e) h;rw[<-hst]at z8;rw[h1,Bool.false_or]at z7;have zz:=Qg (h2.trans fl) .dead;have z0:(H'.set (H.length+1) .dead)[H.length]?=some (.vars [.bool false]):=Qd (by omega) h3 _;have zk:∀i,i<H.length->(H'.set (H.length+1) .dead)[i]? =H[i]? :=λi hi=>by rw[zE (by omega)];exact h4 i hi
   have zv:∀i cs,H1.length<=i->H'[i]?=some (.vars cs)->(H'.set (H.length+1) .dead)[i]?=some (.vars cs):=λi cs hi hc=>by rw[zE (by omega)];exact hc
   have zj:(H'.set (H.length+1) .dead).length=H'.length:=by simp
   rw[<-zj];generalize H'.set (H.length+1) .dead=Z at *
   have zN:=(zk N zd).trans hN;have zM:=(zk M ze).trans hM;have zD:=(zk D zf).trans hD;have zNA:∀L,(Z++L)[N]?=some (.vars [.mref M]):=λL=>Qa zN L;have zMA:∀L,(Z++L)[M]?=some (mpN near):=λL=>Qa zM L;have zDA:∀L,(Z++L)[D]?=some (.vars [.i d]):=λL=>Qa zD L;have z0A:∀L,(Z++L)[H.length]?=some (.vars [.bool false]):=λL=>Qa z0 L;have z0H:∀L hh,(Z++L)[H.length]'hh= .vars [.bool false]:=λL hh=>(zY hh).2 (z0A L);have zl:IntKind.i64.wrap ((d:Int) - 1)=d - 1:=wrap_i64 _ (by omega) (by omega);simp only[Er];repeat(refine s_ ?_;simp[zNA,zDA])
   refine U2 rfl rfl rfl rfl (s:=e.2) rfl (near:=near) (zMA _) zc zi ?_;simp;generalize lkN near e.2=lk at *
   cases lk with
   |none=>
    simp at z7;repeat(refine s_ ?_;simp[zDA])
    refine Qb rfl (λh=>by simp at h) (λ_=>?_);repeat(refine s_ ?_;simp)
    refine⟨Qa zz _,.inl ⟨rfl,⟨z7,?_,?_,λi hi=>?_⟩,λi cs hi hc=>?_⟩⟩
    ·rw[fl];exact Qg (Qa zz _) _
    ·exact z0A _
    ·rw[zE (by omega),zF (by omega)];exact zk i hi
    exact Qd (j:=H.length+1) (by omega) (Qa (zv i cs hi hc) _) _
   |some kd=>
    simp at z7 z8;repeat(refine s_ ?_;simp[zDA,zl])
    refine Qb rfl (λh=>?_) (λh=>?_)
    ·have za:(kd:Int)=d - 1:=by simpa using h
     repeat(refine s_ ?_;simp[z0A,z0H])
     refine⟨Qd (j:=H.length) (by omega) (Qa zz _) _,.inr ⟨.ret,rfl,rfl,z8 za,?_,?_,λi hi=>?_⟩⟩
     ·exact⟨_,_,_,_,Qg (Qd (j:=H.length) (by omega) (Qa zz _) _) _⟩
     ·exact Qg (z0A _) _
     rw[zE (by omega),zE (by omega),zF (by omega)];exact zk i hi
    have za:¬(kd:Int)=d - 1:=by simpa using h
    repeat(refine s_ ?_;simp)
    refine⟨Qa zz _,.inl ⟨rfl,⟨by rw[z7,decide_eq_false za],?_,?_,λi hi=>?_⟩,λi cs hi hc=>?_⟩⟩
    ·rw[fl];exact Qg (Qa zz _) _
    ·exact z0A _
    ·rw[zE (by omega),zF (by omega)];exact zk i hi
    exact Qd (j:=H.length+1) (by omega) (Qa (zv i cs hi hc) _) _
  rintro _ H' (⟨h1,h2,h3,h4⟩|⟨c,rfl,h1,h2,h3,h4⟩)
  ·exact .inl ⟨h1,⟨_,_,_,_,h2.trans fl⟩,h3,h4⟩
  exact .inr ⟨h1,h2,h3,h4⟩
 rintro _ H' (⟨h1,⟨sl',z1,a',b',h2⟩,h3,h4⟩|⟨h1,⟨sl',z1,a',b',h2⟩,h3,h4⟩)
 ·refine⟨true,none,34,sl',z1,a',b',by simpa using h2,?_⟩;simp;have z0:=Qd (j:=H.length+1) (by omega) h3 .dead;have z0H:∀hh,(H'.set (H.length+1) .dead)[H.length]'hh= .vars [.bool false]:=λhh=>(zY hh).2 z0;rw[h1];have zk:∀i,i<H.length->(H'.set (H.length+1) .dead)[i]? =H[i]? :=λi hi=>by rw[zE (by omega)];exact h4 i hi
  generalize H'.set (H.length+1) .dead=Z at *
  repeat(refine s_ ?_;simp[z0,z0H,Qg z0])
  exact λi hi=>by rw[zE (by omega)];exact zk i hi
 refine⟨false,some .ret,34,sl',z1,a',b',by simpa using h2,?_⟩;simp;have z0:=Qd (j:=H.length+1) (by omega) h3 .dead;rw[h1];have zk:∀i,i<H.length->(H'.set (H.length+1) .dead)[i]? =H[i]? :=λi hi=>by rw[zE (by omega)];exact h4 i hi
 generalize H'.set (H.length+1) .dead=Z at *
 repeat(refine s_ ?_;simp[z0])
 exact zk
end
section
open Go.Maps
def d0r{G K:List AObj}(h:∀i,i<G.length->K[i]? =G[i]?):∃E,K=G++E:=by
 refine⟨K.drop G.length,?_⟩;have hl:G.length<=K.length:=by
  by_cases h0:G.length=0
  ·omega
  have:=h (G.length - 1) (by omega);have h2:G[G.length - 1]?=some (G[G.length - 1]'(by omega)):=zI (by omega);rw[h2]at this;have:=Qe this;omega
 refine xL λi=>?_;by_cases hi:i<G.length
 ·rw[zF hi];exact h i hi
 rw[zH (by omega),List.getElem?_drop]
 congr 1;omega
def fdR(n:Nat)(g:Int×Int->Bool)(i:Nat):List (Int×Int):=((yU i).flatMap λx:Nat=>(yU n).map λy:Nat=>((x:Int),(y:Int))).filter g
def fdC(g:Int×Int->Bool)(i j:Nat):List (Int×Int):=((yU j).map λy:Nat=>((i:Int),(y:Int))).filter g
def w03(n:Nat)(g:Int×Int->Bool):fdR n g 0=[]:=by simp[fdR]
def y02(g:Int×Int->Bool)(i:Nat):fdC g i 0=[]:=by simp[fdC]
def v1n(n:Nat)(g:Int×Int->Bool)(i:Nat):fdR n g (i+1)=fdR n g i++fdC g i n:=by unfold fdR fdC;rw[wU,wJ,u9];simp
def x15(g:Int×Int->Bool)(i j:Nat):fdC g i (j+1)=fdC g i j++(if g ((i:Int),(j:Int))=true then [((i:Int),(j:Int))]else []):=by
 unfold fdC;rw[wU,yR,u9]
 congr 1
 rw[List.map_cons,List.map_nil,uX,tU]
def u2c(a:Aut)(g:Int×Int->Bool):fdR a.fin.length g a.fin.length=(P9 a a).filter g:=by
 unfold fdR P9 El
 congr 1
 rw[List.flatMap_map];simp[vT,Function.comp_def]
def Nn(n:Nat):∀i:Nat,((yU i).map λ_:Nat=>n).sum=i * n
 |0=>by simp
 |i+1=>by rw[wU,yR,List.sum_append,Nn n i];simp[uM]
def x27(n:Nat)(g:Int×Int->Bool)(i j:Nat)(hi:i<=n)(hj:j<=n):(fdR n g i++fdC g i j).length<=n * n+n:=by
 rw[zW];have h1:(fdR n g i).length<=i * n:=by
  unfold fdR;refine yP (yX _ _) ?_;rw[List.length_flatMap];have:((yU i).map λx:Nat=>((yU n).map λy:Nat=>((x:Int),(y:Int))).length).sum=i * n:=by simpa using Nn n i
  omega
 have h2:(fdC g i j).length<=j:=by unfold fdC;refine yP (yX _ _) ?_;simp
 have:=Nat.mul_le_mul_right n hi;omega
def Fq(a:Aut)(near:D5)(pf:Int×Int->Bool)(s:Int×Int):Bool:=(lkN near s).isNone && pf s
def Vo(a:Aut)(near:D5)(pf:Int×Int->Bool):List (Int×Int):=(P9 a a).filter (Fq a near pf)
def Zq{a:Aut}{near:D5}{pf:Int×Int->Bool}{s:Int×Int}(h:s∈Vo a near pf):inP a s/\s∉near.map (·.1):=by obtain⟨h1,h2⟩:=List.mem_filter.1 h;refine⟨f0a h1,F5.1 ?_⟩;unfold Fq at h2;simp only[yF,Option.isNone_iff_eq_none]at h2;exact h2.1
def z1v(a:Aut)(near:D5)(pf:Int×Int->Bool):(Vo a near pf).Nodup:=(K8 a).filter _
def NK.round{a:Aut}(ha:OkA a){near:D5}(h:NK near)(pf:Int×Int->Bool)(d:Nat){l r:List (Int×Int)}(he:Vo a near pf=l++r):NK (near++l.map λs=>(s,d)):=by
 have hl:∀s∈l,s∈Vo a near pf:=λs hs=>by rw[he];simp[hs]
 refine⟨?_,λe hm=>?_⟩
 ·rw[yR,vw];refine⟨h.nd,?_,λx hx y hy e=>?_⟩
  ·have:=z1v a near pf;rw[he,vw]at this;simpa[Function.comp_def]using this.1
  simp only[vT,Function.comp_def,sf]at hy;subst e;exact(Zq (hl _ hy)).2 hx
 rcases zT.1 hm with hm|hm
 ·exact h.ok e hm
 obtain⟨s,hs,rfl⟩:=zQ.1 hm;exact B9 ha ha (Zq (hl s hs)).1
attribute [local irreducible] lkN Fq fdR fdC
def z0b (a:Aut) (ha:OkA a) (H:List AObj) (nC N M:Nat) (near:D5) (d:Nat) (pf:Int×Int->Bool) (f:FuncId) (cs:List AV) (hn:H[nC]?=some (.vars [.i a.fin.length])) (hN:H[N]?=some (.vars [.mref M])) (hM:H[M]?=some (mpN near)) (zv:NK near)
  (zf:∀(p q:Int) (H':List AObj),inS a p->inS a q->(∀i,i<H.length->H'[i]? =H[i]?)->FC prog f ([]++[.i p,.i q]++cs) H' (λr K=>r= .bool (pf (p,q))/\∀i,i<H'.length->K[i]? =H'[i]?)):
  FC prog 226 [.i d,.fn (.func f) [] cs,.vptr nC 0,.vptr N 0] H (λr H'=>r= .bool (decide (0<(Vo a near pf).length))/\H'[M]?=some (mpN (near++(Vo a near pf).map λs=>(s,d)))/\∀i,i<H.length->i≠M->H'[i]? =H[i]?):=by
 refine fcB func226 results226 ntmps226 ?_;simp only[Qf];have za:=ha.fin;have yl:=Qe hn;have y7:=Qe hN;have y8:=Qe hM;have y9:=u2c a (Fq a near pf);have ya:=x27 a.fin.length (Fq a near pf);have yb:a.fin.length * a.fin.length<=65536:=yP (uw za.2 za.2) (by decide);repeat(refine s_ ?_;simp[hn])
 refine Q3 7 66 2 rfl ?_;simp;have hst:=SL.start H 66 2;refine Qj (Qc (sl':=[(0,.i d),(1,.fn (.func f) [] cs),(2,.vptr nC 0),(3,.vptr N 0),(6,.bool false),(7,.sl H.length 2 0 (fdR a.fin.length (Fq a near pf) 0).length),(14,.i a.fin.length),(15,.i (0:Nat))]) ?_ (by simp[w03]));refine Qi (F:=λ(u:Nat×Nat×List AObj)=>⟨[(0,.i d),(1,.fn (.func f) [] cs),(2,.vptr nC 0),(3,.vptr N 0),(6,.bool false),(7,.sl u.2.1 2 0 (fdR a.fin.length (Fq a near pf) u.1).length),(14,.i a.fin.length),(15,.i u.1)],u.2.2⟩)
  (λu=>u.1<=a.fin.length/\SL H u.2.2 u.2.1 66 2 ((fdR a.fin.length (Fq a near pf) u.1).map kyP)) (λu=>a.fin.length - u.1) ?_ (0,H.length,_) ⟨xI _,by rw[w03];exact hst⟩
 rintro⟨i,q,G⟩ ⟨hi,hs⟩ ih;simp only at hi hs ih |-;repeat(refine s_ ?_;simp)
 refine Qb rfl (λyc=>?_) (λyd=>?_)
 ·have ye:i<a.fin.length:=by simpa using yc
  have hw:=wz i (by omega);have zw:=λq' G'=>ih (i+1,q',G');simp only[v1n]at zw;have gn:=hs.kp hn;repeat(refine s_ ?_;simp[gn])
  refine Qj (Qc (sl':=[(0,.i d),(1,.fn (.func f) [] cs),(2,.vptr nC 0),(3,.vptr N 0),(6,.bool false),(7,.sl q 2 0 (fdR a.fin.length (Fq a near pf) i++fdC (Fq a near pf) i 0).length),(8,.i i),(14,.i a.fin.length),(15,.i i),(18,.i a.fin.length),(19,.i (0:Nat))]) ?_ (by simp[y02]));refine Qi (F:=λ(u:Nat×Nat×List AObj)=>⟨[(0,.i d),(1,.fn (.func f) [] cs),(2,.vptr nC 0),(3,.vptr N 0),(6,.bool false),(7,.sl u.2.1 2 0 (fdR a.fin.length (Fq a near pf) i++fdC (Fq a near pf) i u.1).length),(8,.i i),(14,.i a.fin.length),(15,.i i),(18,.i a.fin.length),(19,.i u.1)],u.2.2⟩)
   (λu=>u.1<=a.fin.length/\SL H u.2.2 u.2.1 66 2 ((fdR a.fin.length (Fq a near pf) i++fdC (Fq a near pf) i u.1).map kyP)) (λu=>a.fin.length - u.1) ?_ (0,q,G) ⟨xI _,by rw[y02,xG];exact hs⟩
  clear hs gn;clear G q;rintro⟨j,q,G⟩ ⟨hj,hs⟩ ih2;simp only at hj hs ih2 |-;repeat(refine s_ ?_;simp)
  refine Qb rfl (λzg=>?_) (λzh=>?_)
  ·have zx:j<a.fin.length:=by simpa using zg
   have zi:=wz j (by omega);have z1:=λq' G'=>ih2 (j+1,q',G');simp only[x15]at z1;have gN:=hs.kp hN;have gM:=hs.kp hM;have zy:inS a (i:Int):=⟨by omega,by omega⟩
   have zz:inS a (j:Int):=⟨by omega,by omega⟩
   have zj:okK ((i:Int),(j:Int)):=B9 ha ha ⟨zy,zz⟩;have ym:=ya i j hi hj;have yf:=hs.le;have zk:∀x,x<H.length->G[x]? =H[x]? :=λx hx=>by have h1:H[x]?=some H[x]:=zI hx;rw[h1];exact hs.kp h1
   have z7:Fq a near pf ((i:Int),(j:Int))=((lkN near ((i:Int),(j:Int))).isNone && pf ((i:Int),(j:Int))):=by unfold Fq;rfl
   repeat(refine s_ ?_;simp[gN])
   refine U2 rfl rfl rfl rfl (s:=((i:Int),(j:Int))) rfl (near:=near) gM zv zj ?_;simp;generalize hL:fdR a.fin.length (Fq a near pf) i++fdC (Fq a near pf) i j=L at *;simp only[<-xQ,hL]at z1
   have zb:(fdR a.fin.length (Fq a near pf) i).length+(fdC (Fq a near pf) i j).length=L.length:=by rw[<-hL,zW]
   cases hlk:lkN near ((i:Int),(j:Int))with
   |some kd=>
    rw[hlk]at z7;simp at z7;simp only[z7,uO,if_false,xG]at z1;repeat(refine s_ ?_;simp)
    refine Wi rfl rfl ?_;simp;refine Qr rfl ?_;repeat(refine s_ ?_;simp[zi])
    refine Qc (sl':=[(0,.i d),(1,.fn (.func f) [] cs),(2,.vptr nC 0),(3,.vptr N 0),(6,.bool false),(7,.sl q 2 0 L.length),(8,.i i),(14,.i a.fin.length),(15,.i i),(18,.i a.fin.length),(19,.i (j+1:Nat))]) ?_ (by simp[zb]);exact z1 q G ⟨by omega,hs⟩ (by omega)
   |none=>
    rw[hlk]at z7;simp at z7;repeat(refine s_ ?_;simp)
    refine Qu rfl rfl (zf i j G zy zz zk) rfl ?_;rintro _ K ⟨rfl,hK⟩;obtain⟨E,rfl⟩:=d0r hK;have z8:=hs.add E;generalize G++E=G2 at *
    simp;cases hpf:pf ((i:Int),(j:Int))with
    |true=>
     rw[hpf]at z7;simp only[z7,if_true]at z1;have y0:(L.map kyP).length=L.length:=by simp
     generalize zl:L.map kyP=acc at *;refine Qr rfl ?_
     repeat(refine s_ ?_;simp)
     refine apS T41 T66 ?_;simp[Qa z8.arr,Qh z8.arr,y0,zb];refine⟨by simp[Wg,Qa z8.arr,Qh z8.arr,y0,zb]<;>omega,?_⟩;repeat(refine s_ ?_;simp[zi])
     refine Qc (sl':=[(0,.i d),(1,.fn (.func f) [] cs),(2,.vptr nC 0),(3,.vptr N 0),(6,.bool false),(7,.sl (G2.length+1) 2 0 (L++[((i:Int),(j:Int))]).length),(8,.i i),(14,.i a.fin.length),(15,.i i),(18,.i a.fin.length),(19,.i (j+1:Nat))]) ?_ (by simp[zb]);refine z1 (G2.length+1) _ ⟨by omega,?_⟩ (by omega);have:=z8.put [AObj.arr 66 2 [kyP ((i:Int),(j:Int))]] (acc++[kyP ((i:Int),(j:Int))]) rfl;rw[show(L++[((i:Int),(j:Int))]).map kyP=acc++[kyP ((i:Int),(j:Int))] by rw[<-zl];simp];exact this
    |false=>
     rw[hpf]at z7;simp only[z7,uO,if_false,xG]at z1;refine Qr rfl ?_;repeat(refine s_ ?_;simp[zi])
     refine Qc (sl':=[(0,.i d),(1,.fn (.func f) [] cs),(2,.vptr nC 0),(3,.vptr N 0),(6,.bool false),(7,.sl q 2 0 L.length),(8,.i i),(14,.i a.fin.length),(15,.i i),(18,.i a.fin.length),(19,.i (j+1:Nat))]) ?_ (by simp[zb]);exact z1 q G2 ⟨by omega,z8⟩ (by omega)
  have zc:j=a.fin.length:=by simp at zh;omega
  subst zc;repeat(refine s_ ?_;simp[hw])
  refine Qc (sl':=[(0,.i d),(1,.fn (.func f) [] cs),(2,.vptr nC 0),(3,.vptr N 0),(6,.bool false),(7,.sl q 2 0 (fdR a.fin.length (Fq a near pf) i++fdC (Fq a near pf) i a.fin.length).length),(14,.i a.fin.length),(15,.i (i+1:Nat))]) ?_ (by simp);exact zw q G ⟨by omega,hs⟩ (by omega)
 have zm:i=a.fin.length:=by simp at yd;omega
 subst zm;rw[y9]at hs |-;have yg:(P9 a a).filter (Fq a near pf)=Vo a near pf:=rfl;rw[yg]at hs |-;have yn:(Vo a near pf).length<=65536:=by refine yP (yX _ _) ?_;rw[Sm];exact yb
 have y1:=λl r h=>zv.round ha pf d (l:=l) (r:=r) h;have y2:=λs h=>Zq (a:=a) (near:=near) (pf:=pf) (s:=s) h;have zn:=z1v a near pf;generalize Vo a near pf=L at *
 have zk:∀x,x<H.length->G[x]? =H[x]? :=λx hx=>by have h1:H[x]?=some H[x]:=zI hx;rw[h1];exact hs.kp h1
 have yf:=hs.le;have yo:H.length<=q:=hs.ge;refine Qn (sl':=[(0,.i d),(3,.vptr N 0),(6,.bool false),(7,.sl q 2 0 L.length)]) ?_ (by simp);refine Ws q hs.arr ?_;simp[AV.fz];rw[zV (by simp)];have yk:∀x,x<H.length->(G.set q .dead)[x]? =H[x]? :=λx hx=>by rw[zE (by omega)];exact zk x hx
 generalize G.set q .dead=Y at *
 repeat(refine s_ ?_;simp)
 refine Qj (Qc (sl':=[(0,.i d),(3,.vptr N 0),(6,.bool false),(7,.list (L.map kyP)),(46,.list (L.map kyP)),(47,.i L.length),(48,.i (0:Nat))]) ?_ (by simp));refine Qi (F:=λ(u:Nat×List AObj)=>⟨[(0,.i d),(3,.vptr N 0),(6,.bool false),(7,.list (L.map kyP)),(46,.list (L.map kyP)),(47,.i L.length),(48,.i u.1)],u.2⟩)
  (λu=>u.1<=L.length/\u.2[M]?=some (mpN (near++(L.take u.1).map λs=>(s,d)))/\∀i,i<H.length->i≠M->u.2[i]? =H[i]?) (λu=>L.length - u.1) ?_ (0,Y) ⟨xI _,by simpa using(yk M y8).trans hM,λi hi _=>yk i hi⟩
 clear yk;clear Y;rintro⟨k,Y⟩ ⟨hk,yM,yk⟩ ih3;simp only at hk yM yk ih3 |-;repeat(refine s_ ?_;simp)
 refine Qb rfl (λzo=>?_) (λzp=>?_)
 ·have z6:k<L.length:=by simpa using zo
  have yh:=wz k (by omega);have yi:N≠M:=λe=>by rw[e,hM]at hN;simp[mpN]at hN
  have y3:(L.map kyP)[k]?=some (kyP L[k]):=by simp[z6]
  have y4:∀hh,(L.map kyP)[k]'hh=kyP L[k]:=λhh=>by simp
  have zq:L.take k++L[k]::L.drop (k+1)=L:=by rw[<-wH z6,xO]
  have zr:=y1 (L.take k) (L[k]::L.drop (k+1)) zq.symm;have y5:=y2 L[k] (zL z6);have zj:=B9 ha ha y5.1;have zt:L[k]∉(near++(L.take k).map λs=>(s,d)).map (·.1):=by rw[yR,zT,not_or];refine⟨y5.2,λh=>?_⟩;simp only[vT,Function.comp_def,sf]at h;rw[<-zq,vw]at zn;exact zn.2.2 _ h _ List.mem_cons_self rfl
  have y6:(L.take (k+1)).map (λs=>(s,d))=(L.take k).map (λs=>(s,d))++[(L[k],d)]:=by rw[zU z6,yR];rfl
  have zd:=λG'=>ih3 (k+1,G');simp only[y6,<-xQ]at zd;generalize L[k]=s at *;clear zq y6 zn y2 y1;generalize near++(L.take k).map (λs=>(s,d))=nr at *
  have yN:=(yk N y7 yi).trans hN;have yNA:∀E,(Y++E)[N]?=some (.vars [.mref M]):=λE=>Qa yN E;simp only[kyP]at y3 y4;repeat(refine s_ ?_;simp[y3,y4,z6,yNA])
  refine Zl rfl rfl rfl rfl (s:=s) rfl (d:=d) rfl (near:=nr) (Qa yM _) zr zj zt ?_;simp;repeat(refine s_ ?_;simp[yh])
  refine Qc (sl':=[(0,.i d),(3,.vptr N 0),(6,.bool false),(7,.list (L.map kyP)),(46,.list (L.map kyP)),(47,.i L.length),(48,.i (k+1:Nat))]) ?_ (by simp);refine zd _ ⟨by omega,Qg (Qa yM _) _,λi hi zu=>?_⟩ (by omega);have yj:i<Y.length:=Qe ((yk i hi zu).trans (zI hi));rw[zE (Ne.symm zu),zF yj];exact yk i hi zu
 have ze:k=L.length:=by simp at zp;omega
 subst ze;rw[yI]at yM;repeat(refine s_ ?_;simp)
 exact⟨yM,yk⟩
end
section
open Go.Maps
attribute [simp] g2n
def j03(a b:Aut)(s:Int×Int):PC prog 129 [encA a,encA b,pqr s] (λr=>r= .fn (.func 190) [] [.iptr (Qk a),.iptr [.i s.1,.i s.2],.iptr (Qk b)]):=by refine pcB func129 results129 ntmps129 ?_;simp only[Qf];simp only[encA,pqr];repeat(refine s_ ?_;simp)
def oS(s:Int):Option Mv->Int
 |some m=>m.src
 |none=>s
def oP:Option Mv->List AV
 |some m=>m.on.map encL
 |none=>[]
def y0s(s:Int)(o:Option Mv):W4 s o= .agg [.i (oS s o),.i (S1 o),.list (oP o)]:=by cases o<;>rfl
def ldR(a b:Aut)(s:Int×Int)(o:Option Mv)(k:Nat):List Stp:=((Wk b s.2).take k).filterMap (j11 a b s o)
def ldT(a b:Aut)(s:Int×Int)(i:Nat):List Stp:=((Wk a s.1).take i).flatMap λo=>ldR a b s o (Wk b s.2).length
def g02(a b:Aut)(s:Int×Int):ldT a b s (Wk a s.1).length=Vq a b s:=by unfold ldT ldR Vq;rw[yI,yI]
def z0f(a b:Aut)(s:Int×Int):ldT a b s 0=[]:=by simp[ldT]
def g1p(a b:Aut)(s:Int×Int)(o:Option Mv):ldR a b s o 0=[]:=by simp[ldR]
def x0h(a b:Aut)(s:Int×Int){i:Nat}{o:Option Mv}(h:(Wk a s.1)[i]?=some o):ldT a b s (i+1)=ldT a b s i++ldR a b s o (Wk b s.2).length:=by obtain⟨hi,rfl⟩:=zB.1 h;unfold ldT;rw[zU hi,wJ];simp
def j1n(a b:Aut)(s:Int×Int)(o:Option Mv){k:Nat}{r:Option Mv}(h:(Wk b s.2)[k]?=some r):ldR a b s o (k+1)=ldR a b s o k++(match y0t (w0m a b s o r)with|some x=>[(x,(S1 o,S1 r))]|none=>[]):=by
 obtain⟨hk,rfl⟩:=zB.1 h;unfold ldR;rw[zU hk,uo]
 congr 1
 simp only[List.filterMap_cons,List.filterMap_nil,v1b];cases y0t (w0m a b s o (Wk b s.2)[k])<;>rfl
def f0w(a b:Aut)(s:Int×Int)(o:Option Mv)(k:Nat):(ldR a b s o k).length<=k:=by unfold ldR;refine yP (List.length_filterMap_le _ _) ?_;rw[xV];omega
def q06(a b:Aut)(s:Int×Int):∀i,(ldT a b s i).length<=i * (Wk b s.2).length
 |0=>by rw[z0f];simp
 |i+1=>by
  have ih:=q06 a b s i;by_cases h:i<(Wk a s.1).length
  ·rw[x0h a b s (zI h),zW,uM];have:=f0w a b s (Wk a s.1)[i] (Wk b s.2).length;omega
  have e:ldT a b s (i+1)=ldT a b s i:=by unfold ldT;rw[zV (by omega),zV (by omega)]
  rw[e,uM];omega
def Gc{a:Aut}(ha:OkA a)(s:Int):(Wk a s).length<=2049/\0<(Wk a s).length:=by have h:(mvS a s).length<=a.mv.length:=yX _ _;have:=ha.mvs;unfold Wk;simp;omega
def d1y{a b:Aut}(ha:OkA a)(hb:OkA b)(s:Int×Int)(o:Option Mv){i k:Nat}(hi:i<(Wk a s.1).length)(hk:k<=(Wk b s.2).length):(ldT a b s i++ldR a b s o k).length<=4198401:=by
 have h1:=q06 a b s i;have h2:=f0w a b s o k;have h3:=(Gc ha s.1).1;have h4:=(Gc hb s.2).1;rw[zW];have h5:i * (Wk b s.2).length+(Wk b s.2).length<=2049 * 2049:=by rw[<-uM];exact uw (by omega) h4
 omega
def f07{a:Aut}(ha:OkA a){s:Int}{o:Option Mv}(h:o∈Wk a s):(∀p∈Ze o,PCk a.types.toNat p)/\(∀p∈Ku a s o,PCk a.types.toNat p)/\(Ze o).length<=1/\(Ku a s o).length<=2048:=by
 have hl:(mvS a s).length<=a.mv.length:=yX _ _;have:=ha.mvs;rcases An.1 h with rfl|⟨m,hm,rfl⟩
 ·refine⟨λp h=>(by cases h),λp hp=>?_,by simp[Ze],by simp[Ku];omega⟩;obtain⟨m,hm,rfl⟩:=zQ.1 hp;exact(ha.mv m (Yk.1 hm).1).on
 refine⟨λp hp=>?_,λp h=>(by cases h),by simp[Ze],by simp[Ku]⟩;rw[List.mem_singleton.1 hp];exact(ha.mv m (Yk.1 hm).1).on
def w0s(p q:List Prd):Iu [p,q]=p++q:=by simp[Iu]
attribute [local irreducible] Wk Ze Ku Vq ldR ldT y0t Dh Iu
def j0b (a b:Aut) (ha:OkA a) (hb:OkA b) (ht:b.types=a.types) (yi:Dta a) (yj:Dta b) (s:Int×Int) (l:Nat) {z7:Nat} {sl':List (Nat×AV)} {ps:List Tmp} {asg body:Code} (yk:ps.length=1) (yl:(ps.all λp=>decide (p<z7))=true)
  (Inv:List Stp->List AObj->Prop) (Done:Code->List AObj->Prop) (H0:List AObj)
  (hI:∀k H,Inv k H->H[l]?=some (.lp true none z7 sl' ps asg body))
  (z8:∀k H L,Inv k H->Inv k (H++L))
  (zc:∀pre e post H,Dh a b s=pre++e::post->Inv pre H->H0.length<=H.length->AWP prog z7 H.length asg (P0 (AWP prog z7 H.length body (Nk l (λjm K2=>(jm=none/\Inv (pre++[e]) (K2.set l (.lp true none z7 sl' ps asg body))/\∀i cs,H0.length<=i->H[i]?=some (.vars cs)->(K2.set l (.lp true none z7 sl' ps asg body))[i]?=some (.vars cs))\/∃c,jm=some c/\Done c (K2.set l (.lp false (some c) z7 sl' ps asg body))))) (λ_ _=>False)) ⟨E7 sl' ps [Er e],H.set l .dead⟩)
  (h0:Inv [] H0):FC prog 190 [.yld l,.iptr (Qk a),.iptr [.i s.1,.i s.2],.iptr (Qk b)] H0 (λ_ H'=>Inv (Dh a b s) H'\/∃c,Done c H'):=by
 refine fcB func190 results190 ntmps190 ?_;simp only[Qf];have cOa:=Hv a s.1 (by have:=ha.mvs;omega);have cOb:=Hv b s.2 (by have:=hb.mvs;omega);have ym:=Gc ha s.1;have yn:=Gc hb s.2;simp only[encA]at cOa cOb;repeat(refine s_ ?_;simp)
 refine Qo tOk mixed [] (.val 0 (.val 1 (.val 2 (.val 4 (.val 5 (.val 6 (.one 3 (.one 7 (.val 8 (.val 9 (.done))))))))))) rfl (by kernel_rfl) ?_;simp;refine pcL (cOa) ?_;simp;refine pcL (cOb) ?_;simp;repeat(refine s_ ?_;simp)
 refine Q3 5 184 4 rfl ?_;simp;have hst:=SL.start H0 184 4;have y3:=z0f a b s;refine Qj (Qc (sl':=[(0,.yld l),(1,.iptr (Qk a)),(2,.iptr [.i s.1,.i s.2]),(3,.iptr (Qk b)),(5,.sl H0.length 4 0 (ldT a b s 0).length),(6,.list ((Wk a s.1).map (W4 s.1))),(7,.list ((Wk b s.2).map (W4 s.2))),(28,.list ((Wk a s.1).map (W4 s.1))),(29,.i (Wk a s.1).length),(30,.i (0:Nat))]) ?_ (by simp[y3]));refine Qi (P:=prog) (F:=λ(u:Nat×Nat×List AObj)=>⟨[(0,.yld l),(1,.iptr (Qk a)),(2,.iptr [.i s.1,.i s.2]),(3,.iptr (Qk b)),(5,.sl u.2.1 4 0 (ldT a b s u.1).length),(6,.list ((Wk a s.1).map (W4 s.1))),(7,.list ((Wk b s.2).map (W4 s.2))),(28,.list ((Wk a s.1).map (W4 s.1))),(29,.i (Wk a s.1).length),(30,.i u.1)],u.2.2⟩)
  (λu=>u.1<=(Wk a s.1).length/\SL H0 u.2.2 u.2.1 184 4 ((ldT a b s u.1).map Er)) (λu=>(Wk a s.1).length - u.1) ?_ (0,H0.length,_) ⟨xI _,by rw[y3];simpa using hst⟩
 rintro⟨i,q,G⟩ ⟨hi,g⟩ ih;simp only at hi g ih |-;repeat(refine s_ ?_;simp)
 refine Qb rfl (λyo=>?_) (λyp=>?_)
 ·have zd:i<(Wk a s.1).length:=by simpa using yo
  have hw:=wz i (by omega);obtain⟨o,ho⟩:∃o,(Wk a s.1)[i]?=some o:=⟨_,zI zd⟩
  have y4:=zJ ho;obtain⟨k1,k2,k3,k4⟩:=f07 ha y4;have yq:=x0h a b s ho;have y5:=λk h=>d1y ha hb s o (i:=i) (k:=k) zd h;have zv:=λq' G'=>ih (i+1,q',G');simp only[yq]at zv;have cSa:=B0 a s.1 i o ho (by have:=ha.mvs;omega);have zw:=λr h=>q2u ha hb ht (s:=s) (o:=o) (r:=r) y4 h;have y6:=λk r h=>j1n a b s o (k:=k) (r:=r) h;have y7:=g1p a b s o;have zl:((Wk a s.1).map (W4 s.1))[i]?=some (.agg [.i (oS s.1 o),.i (S1 o),.list (oP o)]):=by rw[zS,ho,wG,y0s]
  have zn:∀hh,((Wk a s.1).map (W4 s.1))[i]'hh= .agg [.i (oS s.1 o),.i (S1 o),.list (oP o)]:=λhh=>(zY hh).2 zl;generalize oP o=vo at *;generalize ldT a b s i=A at *
  obtain⟨Bf,zm⟩:∃Bf:Nat->List Stp,∀k,Bf k=A++ldR a b s o k:=⟨_,λ_=>rfl⟩
  have y8:Bf 0=A:=by rw[zm,y7,xG]
  have yr:∀k r,(Wk b s.2)[k]?=some r->Bf (k+1)=Bf k++(match y0t (w0m a b s o r)with|some x=>[(x,(S1 o,S1 r))]|none=>[]):=λk r h=>by rw[zm,zm,y6 k r h,xQ]
  have yt:∀k,k<=(Wk b s.2).length->(Bf k).length<=4198401:=λk h=>by rw[zm];exact y5 k h
  have y9:=zm (Wk b s.2).length;simp only[<-y9]at zv;clear zm y6 y7 y5 y9;repeat(refine s_ ?_;simp[zl,zn,zd])
  refine pcL (cSa) ?_;simp;repeat(refine s_ ?_;simp)
  refine Q4 λY hY=>?_;have yx:Y[G.length]?=some (.vars [.i (oS s.1 o),.i (S1 o),.list vo]):=by rw[hY,zH (by simp)];simp
  have gy:SL H0 Y q 184 4 ((Bf 0).map Er):=by rw[hY,y8];exact g.add _
  clear hY g;generalize G.length=x at *;clear G;clear zl zn;refine Qj (Qc (sl':=[(0,.yld l),(1,.iptr (Qk a)),(2,.iptr [.i s.1,.i s.2]),(3,.iptr (Qk b)),(5,.sl q 4 0 (Bf 0).length),(6,.list ((Wk a s.1).map (W4 s.1))),(7,.list ((Wk b s.2).map (W4 s.2))),(9,.vptr x 0),(10,LP (Ze o)),(11,LP (Ku a s.1 o)),(28,.list ((Wk a s.1).map (W4 s.1))),(29,.i (Wk a s.1).length),(30,.i i),(41,.list ((Wk b s.2).map (W4 s.2))),(42,.i (Wk b s.2).length),(43,.i (0:Nat))]) ?_ (by simp[y8]))
  refine Qi (P:=prog) (F:=λ(u:Nat×Nat×List AObj)=>⟨[(0,.yld l),(1,.iptr (Qk a)),(2,.iptr [.i s.1,.i s.2]),(3,.iptr (Qk b)),(5,.sl u.2.1 4 0 (Bf u.1).length),(6,.list ((Wk a s.1).map (W4 s.1))),(7,.list ((Wk b s.2).map (W4 s.2))),(9,.vptr x 0),(10,LP (Ze o)),(11,LP (Ku a s.1 o)),(28,.list ((Wk a s.1).map (W4 s.1))),(29,.i (Wk a s.1).length),(30,.i i),(41,.list ((Wk b s.2).map (W4 s.2))),(42,.i (Wk b s.2).length),(43,.i u.1)],u.2.2⟩)
   (λu=>u.1<=(Wk b s.2).length/\SL H0 u.2.2 u.2.1 184 4 ((Bf u.1).map Er)/\u.2.2[x]?=some (.vars [.i (oS s.1 o),.i (S1 o),.list vo])) (λu=>(Wk b s.2).length - u.1) ?_ (0,q,Y) ⟨xI _,gy,yx⟩
  clear gy yx;clear Y q;rintro⟨k,q,Y⟩ ⟨hk,gy,yx⟩ ih2;simp only at hk gy yx ih2 |-;have x7:=yt k hk;repeat(refine s_ ?_;simp)
  refine Qb rfl (λze=>?_) (λzf=>?_)
  ·have z1:k<(Wk b s.2).length:=by simpa using ze
   have zr:=wz k (by omega);obtain⟨r,hr⟩:∃r,(Wk b s.2)[k]?=some r:=⟨_,zI z1⟩
   have ya:=zJ hr;obtain⟨j1,j2,j3,j4⟩:=f07 hb ya;have cSb:=B0 b s.2 k r hr (by have:=hb.mvs;omega);have hf:=zw r ya;have yu:=yr k r hr;have z6:=λq' G'=>ih2 (k+1,q',G');simp only[yu]at z6;have cL:=g0d a.types.toNat (by have:=ha.types;omega) (Ze o++Ze r) (Ku a s.1 o++Ku b s.2 r) (λp hp=>(zT.1 hp).elim (k1 p) (λh=>by rw[<-ht];exact j1 p h)) (λp hp=>(zT.1 hp).elim (k2 p) (λh=>by rw[<-ht];exact j2 p h)) (w0m a b s o r) hf;have yv:((a.types.toNat:Nat):Int)=a.types:=by have:=ha.types;omega
   rw[yv,v2k]at cL;have zg:((Wk b s.2).map (W4 s.2))[k]?=some (.agg [.i (oS s.2 r),.i (S1 r),.list (oP r)]):=by rw[zS,hr,wG,y0s]
   have zo:∀hh,((Wk b s.2).map (W4 s.2))[k]'hh= .agg [.i (oS s.2 r),.i (S1 r),.list (oP r)]:=λhh=>(zY hh).2 zg;have cC1:=Lp [Ze o,Ze r] (by simp) (by rw[w0s,zW];omega);have cC2:=Lp [Ku a s.1 o,Ku b s.2 r] (by simp) (by rw[w0s,zW];omega);rw[w0s]at cC1 cC2;generalize oP r=vr at *;generalize y0t (w0m a b s o r)=Z at *;generalize Bf k=B at *
   repeat(refine s_ ?_;simp[zg,zo,z1])
   refine pcL (cSb) ?_;simp;repeat(refine s_ ?_;simp)
   generalize Ze o++Ze r=I2 at *;generalize Ku a s.1 o++Ku b s.2 r=O2 at *;generalize Ze o=Io at *;generalize Ze r=Ir at *;generalize Ku a s.1 o=Oo at *;generalize Ku b s.2 r=Or at *;refine Q4 λW hW=>?_
   have wx:W[x]?=some (.vars [.i (oS s.1 o),.i (S1 o),.list vo]):=by rw[hW];exact Qa yx _
   have wr:W[Y.length]?=some (.vars [.i (oS s.2 r),.i (S1 r),.list vr]):=by rw[hW,zH (by simp)];simp
   have gw:SL H0 W q 184 4 (B.map Er):=by rw[hW];exact gy.add _
   clear hW gy yx zg zo;generalize Y.length=y at *;clear Y
   have zh:∀(u z:AObj) (E:List AObj),(W++u::E).set W.length z=W++z::E:=λu z E=>by rw[up _ _ (by simp)];simp
   have zi:∀(u v z:AObj) (E:List AObj),(W++u::v::E).set (W.length+1) z=W++u::z::E:=λu v z E=>by rw[up _ _ (by simp)];simp
   have zj:∀(u v t z:AObj) (E:List AObj),(W++u::v::t::E).set (W.length+2) z=W++u::v::z::E:=λu v t z E=>by rw[up _ _ (by simp)];simp
   have zx:∀(u:AObj) (E:List AObj),(W++u::E)[W.length]?=some u:=λu E=>by rw[zH (by simp)];simp
   have zy:∀(u v:AObj) (E:List AObj),(W++u::v::E)[W.length+1]?=some v:=λu v E=>by rw[zH (by simp)];simp
   have zz:∀(u v t:AObj) (E:List AObj),(W++u::v::t::E)[W.length+2]?=some t:=λu v t E=>by rw[zH (by simp)];simp
   refine Qn (sl':=[(0,.yld l),(1,.iptr (Qk a)),(2,.iptr [.i s.1,.i s.2]),(3,.iptr (Qk b)),(5,.sl q 4 0 B.length),(6,.list ((Wk a s.1).map (W4 s.1))),(7,.list ((Wk b s.2).map (W4 s.2))),(9,.vptr x 0),(10,LP Io),(11,LP Oo),(13,.vptr y 0),(14,LP Ir),(15,LP Or),(28,.list ((Wk a s.1).map (W4 s.1))),(29,.i (Wk a s.1).length),(30,.i i),(41,.list ((Wk b s.2).map (W4 s.2))),(42,.i (Wk b s.2).length),(43,.i k)]) ?_ (by simp);refine Uk (P:=prog) tOk mixed [15] (.val 0 (.val 1 (.val 2 (.val 3 (.val 6 (.val 7 (.three 4 (.three 5 (.two 8 (.two 9 (.two 10 (.val 11 (.val 12 (.val 13 (.one 14 (.one 15 (.val 16 (.done))))))) 14 (.one 10 (.val 11 (.val 12 (.val 13 (.one 15 (.val 16 (.done)))))))) 14 (.one 9 (.one 10 (.val 11 (.val 12 (.val 13 (.one 15 (.val 16 (.done))))))))) 14 (.one 8 (.one 9 (.one 10 (.val 11 (.val 12 (.val 13 (.one 15 (.val 16 (.done)))))))))) 8 (.two 5 (.two 9 (.two 10 (.val 11 (.val 12 (.val 13 (.one 14 (.one 15 (.val 16 (.done))))))) 14 (.one 10 (.val 11 (.val 12 (.val 13 (.one 15 (.val 16 (.done)))))))) 14 (.one 9 (.one 10 (.val 11 (.val 12 (.val 13 (.one 15 (.val 16 (.done))))))))) 14 (.one 5 (.one 9 (.one 10 (.val 11 (.val 12 (.val 13 (.one 15 (.val 16 (.done)))))))))) 14 (.two 5 (.one 8 (.one 9 (.one 10 (.val 11 (.val 12 (.val 13 (.one 15 (.val 16 (.done))))))))) 8 (.one 5 (.one 9 (.one 10 (.val 11 (.val 12 (.val 13 (.one 15 (.val 16 (.done))))))))))) 8 (.two 4 (.two 5 (.two 9 (.two 10 (.val 11 (.val 12 (.val 13 (.one 14 (.one 15 (.val 16 (.done))))))) 14 (.one 10 (.val 11 (.val 12 (.val 13 (.one 15 (.val 16 (.done)))))))) 14 (.one 9 (.one 10 (.val 11 (.val 12 (.val 13 (.one 15 (.val 16 (.done))))))))) 14 (.one 5 (.one 9 (.one 10 (.val 11 (.val 12 (.val 13 (.one 15 (.val 16 (.done)))))))))) 14 (.one 4 (.one 5 (.one 9 (.one 10 (.val 11 (.val 12 (.val 13 (.one 15 (.val 16 (.done))))))))))) 14 (.two 4 (.two 5 (.one 8 (.one 9 (.one 10 (.val 11 (.val 12 (.val 13 (.one 15 (.val 16 (.done))))))))) 8 (.one 5 (.one 9 (.one 10 (.val 11 (.val 12 (.val 13 (.one 15 (.val 16 (.done)))))))))) 8 (.one 4 (.one 5 (.one 9 (.one 10 (.val 11 (.val 12 (.val 13 (.one 15 (.val 16 (.done)))))))))))))))))) (λS'=>∃(c:Nat) (E:List AObj),S'.hp=W++E/\(W++E)[c]?=some (.vars [.i (Z.getD ⟨0,0⟩).ty,.i (Z.getD ⟨0,0⟩).num])/\look S'.sl 16=some (.vptr c 0)/\look S'.sl 17=some (.bool Z.isSome)/\look S'.sl 0=some (.yld l)/\look S'.sl 1=some (.iptr (Qk a))/\look S'.sl 2=some (.iptr [.i s.1,.i s.2])/\look S'.sl 3=some (.iptr (Qk b))/\look S'.sl 5=some (.sl q 4 0 B.length)/\look S'.sl 6=some (.list ((Wk a s.1).map (W4 s.1)))/\look S'.sl 7=some (.list ((Wk b s.2).map (W4 s.2)))/\look S'.sl 9=some (.vptr x 0)/\look S'.sl 10=some (LP Io)/\look S'.sl 11=some (LP Oo)/\look S'.sl 13=some (.vptr y 0)/\look S'.sl 28=some (.list ((Wk a s.1).map (W4 s.1)))/\look S'.sl 29=some (.i (Wk a s.1).length)/\look S'.sl 30=some (.i i)/\look S'.sl 41=some (.list ((Wk b s.2).map (W4 s.2)))/\look S'.sl 42=some (.i (Wk b s.2).length)/\look S'.sl 43=some (.i k)) rfl (by kernel_rfl) ?_ ?_
   ·have za:yU 2=[0,1]:=rfl;simp[wx,wr,za]
    repeat' (first
     |refine And.intro ?_ ?_
     |(refine pcL cL ?_;simp[wx,wr,za])
     |(refine Ww W.length (zx _ _) ?_;simp[zh,zi,zj];refine pcL cC1 ?_;simp[wx,wr,za])
     |(refine Ww (W.length+1) (zy _ _ _) ?_;simp[zh,zi,zj];refine pcL cC1 ?_;simp[wx,wr,za])
     |(refine Ww (W.length+2) (zz _ _ _ _) ?_;simp[zh,zi,zj];refine pcL cC1 ?_;simp[wx,wr,za])
     |(refine Ww W.length (zx _ _) ?_;simp[zh,zi,zj];refine pcL cC2 ?_;simp[wx,wr,za])
     |(refine Ww (W.length+1) (zy _ _ _) ?_;simp[zh,zi,zj];refine pcL cC2 ?_;simp[wx,wr,za])
     |(refine Ww (W.length+2) (zz _ _ _ _) ?_;simp[zh,zi,zj];refine pcL cC2 ?_;simp[wx,wr,za]))
   rintro⟨sl,E0⟩ ⟨c,E,rfl,hc,s16,s17,s0,s1,s2,s3,s5,s6,s7,s9,s10,s11,s13,s28,s29,s30,s41,s42,s43⟩;simp only at s16 s17 s0 s1 s2 s3 s5 s6 s7 s9 s10 s11 s13 s28 s29 s30 s41 s42 s43;simp;refine Qn (sl':=[(0,.yld l),(1,.iptr (Qk a)),(2,.iptr [.i s.1,.i s.2]),(3,.iptr (Qk b)),(5,.sl q 4 0 B.length),(6,.list ((Wk a s.1).map (W4 s.1))),(7,.list ((Wk b s.2).map (W4 s.2))),(9,.vptr x 0),(10,LP Io),(11,LP Oo),(13,.vptr y 0),(16,.vptr c 0),(17,.bool Z.isSome),(28,.list ((Wk a s.1).map (W4 s.1))),(29,.i (Wk a s.1).length),(30,.i i),(41,.list ((Wk b s.2).map (W4 s.2))),(42,.i (Wk b s.2).length),(43,.i k)]) ?_ (by simp[s16,s17,s0,s1,s2,s3,s5,s6,s7,s9,s10,s11,s13,s28,s29,s30,s41,s42,s43]);clear s16 s17 s0 s1 s2 s3 s5 s6 s7 s9 s10 s11 s13 s28 s29 s30 s41 s42 s43 zh zi zj zx zy zz;have zt:=Qa wx E;have yw:=Qa wr E;have zk:=gw.add E;clear wx wr gw;generalize W++E=X at *;clear W E
   have yb:(B.map Er).length=B.length:=by simp
   cases Z with
   |none=>
    simp only[xG]at z6;repeat(refine s_ ?_;simp)
    refine Qb rfl (λh=>by simp at h) (λ_=>?_);repeat(refine s_ ?_;simp[zr])
    refine Qc (sl':=[(0,.yld l),(1,.iptr (Qk a)),(2,.iptr [.i s.1,.i s.2]),(3,.iptr (Qk b)),(5,.sl q 4 0 B.length),(6,.list ((Wk a s.1).map (W4 s.1))),(7,.list ((Wk b s.2).map (W4 s.2))),(9,.vptr x 0),(10,LP Io),(11,LP Oo),(28,.list ((Wk a s.1).map (W4 s.1))),(29,.i (Wk a s.1).length),(30,.i i),(41,.list ((Wk b s.2).map (W4 s.2))),(42,.i (Wk b s.2).length),(43,.i (k+1:Nat))]) ?_ (by simp);exact z6 q X ⟨by omega,zk,zt⟩ (by omega)
   |some z=>
    simp only[Option.getD_some]at hc;repeat(refine s_ ?_;simp)
    refine Qb rfl (λ_=>?_) (λh=>by simp at h);repeat(refine s_ ?_;simp[hc,zt,yw])
    refine apS g2i g2h ?_;simp[Qa zk.arr,Qh zk.arr,yb];refine⟨by simp[Wg,Qa zk.arr,Qh zk.arr,yb]<;>omega,?_⟩;repeat(refine s_ ?_;simp[zr])
    refine Qc (sl':=[(0,.yld l),(1,.iptr (Qk a)),(2,.iptr [.i s.1,.i s.2]),(3,.iptr (Qk b)),(5,.sl (X.length+1) 4 0 (B++[(z,(S1 o,S1 r))]).length),(6,.list ((Wk a s.1).map (W4 s.1))),(7,.list ((Wk b s.2).map (W4 s.2))),(9,.vptr x 0),(10,LP Io),(11,LP Oo),(28,.list ((Wk a s.1).map (W4 s.1))),(29,.i (Wk a s.1).length),(30,.i i),(41,.list ((Wk b s.2).map (W4 s.2))),(42,.i (Wk b s.2).length),(43,.i (k+1:Nat))]) ?_ (by simp);have yy:x≠q:=λe=>by have:=zk.arr;rw[<-e,zt]at this;simp at this
    refine z6 (X.length+1) _ ⟨by omega,?_,Qa (Qd (Ne.symm yy) zt _) _⟩ (by omega);have y0:=zk.put [AObj.arr 184 4 [Er (z,(S1 o,S1 r))]] ((B++[(z,(S1 o,S1 r))]).map Er) (n:=X.length+1) rfl;simpa[Er]using y0
  have yz:k=(Wk b s.2).length:=by simp at zf;omega
  subst yz;repeat(refine s_ ?_;simp[hw])
  refine Qc (sl':=[(0,.yld l),(1,.iptr (Qk a)),(2,.iptr [.i s.1,.i s.2]),(3,.iptr (Qk b)),(5,.sl q 4 0 (Bf (Wk b s.2).length).length),(6,.list ((Wk a s.1).map (W4 s.1))),(7,.list ((Wk b s.2).map (W4 s.2))),(28,.list ((Wk a s.1).map (W4 s.1))),(29,.i (Wk a s.1).length),(30,.i (i+1:Nat))]) ?_ (by simp);exact zv q Y ⟨by omega,gy⟩ (by omega)
 have x0:i=(Wk a s.1).length:=by simp at yp;omega
 subst x0;rw[g02]at g |-;have zp:(Vq a b s).length<=4198401:=by rw[<-g02];have h1:=q06 a b s (Wk a s.1).length;have h2:=uw ym.1 yn.1;omega
 have yc:=λ(L:List Stp) (h1:L.Perm (Vq a b s)) (h2:L.Pairwise λx y=>Ms x y=true)=>q14 yi yj ht s h1 h2;generalize Vq a b s=A at *
 repeat(refine s_ ?_;simp)
 refine Qu rfl rfl (c0e G q A g.arr (by omega)) rfl ?_;rintro _ _ ⟨rfl,A',hp,hs,rfl⟩;have y1:A'=Dh a b s:=yc A' hp (hs.imp λh=>by unfold Ms;rw[h];rfl);have zu:A'.length=A.length:=hp.length_eq;simp;have yd:=Qe g.arr;have y2:=g.ge;refine Ws q (zK yd) ?_;have ye:(A'.map Er).take A.length=A'.map Er:=zV (by simp[zu]);simp[AV.fz,ye,zu];rw[y1];have x1:(Dh a b s).length<=4198401:=by rw[<-y1,zu];exact zp
 have yf:∀j,j<H0.length->(G.set q .dead)[j]? =H0[j]? :=λj hj=>by rw[zE (by omega)];exact g.keep j hj
 obtain⟨E,hE⟩:=d0r yf;have hinv:=z8 [] H0 E h0;rw[<-hE]at hinv;have zb:H0.length<=(G.set q .dead).length:=by rw[hE];simp
 have hL:∀j (h:j<(Dh a b s).length),∃post,Dh a b s=(Dh a b s).take j++(Dh a b s)[j]::post:=λj h=>⟨(Dh a b s).drop (j+1),by rw[<-wH h,xO]⟩
 clear hE yf;clear hp hs zu y1 ye zp yc g yd y2;generalize G.set q .dead=Y at *;clear G E A A';generalize Dh a b s=L at *;refine Qn (sl':=[(0,.yld l),(5,.list (L.map Er))]) ?_ (by simp)
 repeat(refine s_ ?_;simp)
 refine Qj (Qc (sl':=[(0,.yld l),(83,.list (L.map Er)),(84,.i L.length),(85,.i (0:Nat))]) ?_ (by simp));refine Qi (P:=prog) (F:=λ(u:Nat×List AObj)=>⟨[(0,.yld l),(83,.list (L.map Er)),(84,.i L.length),(85,.i u.1)],u.2⟩)
  (λu=>u.1<=L.length/\Inv (L.take u.1) u.2/\H0.length<=u.2.length) (λu=>L.length - u.1) ?_ (0,Y) ⟨xI _,by simpa using hinv,zb⟩
 clear hinv zb;clear Y;rintro⟨j,G⟩ ⟨hj,gv,yg⟩ ih2;simp only at hj gv yg ih2 |-;repeat(refine s_ ?_;simp)
 refine Qb rfl (λze=>?_) (λzf=>?_)
 ·have z1:j<L.length:=by simpa using ze
  have zr:=wz j (by omega);obtain⟨post,zq⟩:=hL j z1;have x2:L.take (j+1)=L.take j++[L[j]]:=zU z1;have z6:=λG'=>ih2 (j+1,G');simp only[x2]at z6;have zl:(L.map Er)[j]?=some (Er L[j]):=by simp[z1]
  have zn:∀hh,(L.map Er)[j]'hh=Er L[j]:=λhh=>by simp
  generalize L[j]=e at *;generalize L.take j=pre at *;simp only[Er]at zl zn
  repeat(refine s_ ?_;simp[zl,zn,z1])
  have yh:=z8 _ G [.vars [.i e.1.ty,.i e.1.num,.i e.2.1,.i e.2.2]] gv;have i1:=hI _ _ yh;have x3:=zc pre e post _ zq yh (by simp;omega);have x4:(G++[AObj.vars [.i e.1.ty,.i e.1.num,.i e.2.1,.i e.2.2]])[G.length]?=some (.vars [.i e.1.ty,.i e.1.num,.i e.2.1,.i e.2.2]):=by rw[zH (by simp)];simp
  generalize G++[AObj.vars [.i e.1.ty,.i e.1.num,.i e.2.1,.i e.2.2]]=Y at *;refine Rn rfl rfl (q:=l) rfl rfl i1 yk yl rfl (λjm K2=>(jm=none/\Inv (pre++[e]) (K2.set l (.lp true none z7 sl' ps asg body))/\∀i cs,H0.length<=i->Y[i]?=some (.vars cs)->(K2.set l (.lp true none z7 sl' ps asg body))[i]?=some (.vars cs))\/∃c,jm=some c/\Done c (K2.set l (.lp false (some c) z7 sl' ps asg body))) ?_ ?_
  ·exact x3
  rintro jm K2 (⟨rfl,hK,x5⟩|⟨c,rfl,hD⟩)
  ·simp;repeat(refine s_ ?_;simp)
   refine Qb rfl (λh=>by cases h) (λ_=>?_);repeat(refine s_ ?_;simp[zr])
   refine Qc (sl':=[(0,.yld l),(83,.list (L.map Er)),(84,.i L.length),(85,.i (j+1:Nat))]) ?_ (by simp);exact z6 _ ⟨by omega,hK,by have:=Qe (x5 _ _ yg x4);omega⟩ (by omega)
  simp;repeat(refine s_ ?_;simp)
  refine Qb rfl (λ_=>?_) (λh=>by cases h);repeat(refine s_ ?_;simp)
  exact .inr ⟨c,hD⟩
 have x6:j=L.length:=by simp at zf;omega
 subst x6;rw[yI]at gv;repeat(refine s_ ?_;simp)
 exact .inl gv
end
end Go.Abs
namespace Go.Proofs
open Go.Shelf
def Tryz.sortPr_ren:Go.Shelf.Ren:=⟨λ|6=>130|15=>199|14=>198|28=>244|29=>245|20=>236|21=>237|22=>238|23=>239|24=>240|25=>241|26=>242|27=>243|46=>291|47=>292|48=>293|49=>294|50=>295|57=>316|n=>n,λ|22=>41|24=>66|25=>188|3=>3|39=>189|0=>0|53=>255|55=>258|4=>4|46=>291|45=>290|50=>112|5=>5|9=>9|66=>327|70=>331|76=>349|77=>350|n=>n,λ|n=>n⟩
def Tryz.sortPr:Go.Proofs.SlLaysF0.n6 prog Tryz.sortPr_ren:={
 mixed:=by kernel_rfl
 f6:=⟨Tryz.f130.name,by decide,func130.trans (congrArg some (by kernel_rfl))⟩
 f14:=⟨Tryz.f198.name,by decide,func198.trans (congrArg some (by kernel_rfl))⟩
 f15:=func199.trans (congrArg some (by kernel_rfl))
 f20:=⟨Tryz.f236.name,by decide,func236.trans (congrArg some (by kernel_rfl))⟩
 f21:=⟨Tryz.f237.name,by decide,func237.trans (congrArg some (by kernel_rfl))⟩
 f22:=⟨Tryz.f238.name,by decide,func238.trans (congrArg some (by kernel_rfl))⟩
 f23:=⟨Tryz.f239.name,by decide,func239.trans (congrArg some (by kernel_rfl))⟩
 f24:=⟨Tryz.f240.name,by decide,func240.trans (congrArg some (by kernel_rfl))⟩
 f25:=⟨Tryz.f241.name,by decide,func241.trans (congrArg some (by kernel_rfl))⟩
 f26:=⟨Tryz.f242.name,by decide,func242.trans (congrArg some (by kernel_rfl))⟩
 f27:=⟨Tryz.f243.name,by decide,func243.trans (congrArg some (by kernel_rfl))⟩
 f28:=func244.trans (congrArg some (by kernel_rfl))
 f29:=func245.trans (congrArg some (by kernel_rfl))
 f46:=⟨Tryz.f291.name,by decide,func291.trans (congrArg some (by kernel_rfl))⟩
 f47:=func292.trans (congrArg some (by kernel_rfl))
 f48:=func293.trans (congrArg some (by kernel_rfl))
 f49:=⟨Tryz.f294.name,by decide,func294.trans (congrArg some (by kernel_rfl))⟩
 f50:=⟨Tryz.f295.name,by decide,func295.trans (congrArg some (by kernel_rfl))⟩
 f57:=⟨Tryz.f316.name,by decide,func316.trans (congrArg some (by kernel_rfl))⟩
 t0:=underlying0
 a0:=isAgg0
 z0:=sizeOf0
 v0:=zeroValue0
 t3:=underlying3
 a3:=isAgg3
 z3:=sizeOf3
 v3:=zeroValue3
 t4:=underlying4
 a4:=isAgg4
 z4:=sizeOf4
 v4:=zeroValue4
 t5:=underlying5
 a5:=isAgg5
 z5:=sizeOf5
 v5:=zeroValue5
 t9:=underlying9
 a9:=isAgg9
 z9:=sizeOf9
 v9:=zeroValue9
 t22:=underlying41
 a22:=isAgg41
 z22:=sizeOf41
 v22:=zeroValue41
 t25:=underlying188
 a25:=isAgg188
 z25:=sizeOf188
 v25:=zeroValue188
 t39:=underlying189
 a39:=isAgg189
 z39:=sizeOf189
 v39:=zeroValue189
 t45:=underlying290
 a45:=isAgg290
 z45:=sizeOf290
 v45:=zeroValue290
 t46:=underlying291
 a46:=isAgg291
 z46:=sizeOf291
 v46:=zeroValue291
 t50:=underlying112
 a50:=isAgg112
 z50:=sizeOf112
 v50:=zeroValue112
 t53:=underlying255
 a53:=isAgg255
 z53:=sizeOf255
 v53:=zeroValue255
 t55:=underlying258
 a55:=isAgg258
 z55:=sizeOf258
 v55:=zeroValue258
 t66:=underlying327
 a66:=isAgg327
 z66:=sizeOf327
 v66:=zeroValue327
 t70:=underlying331
 a70:=isAgg331
 z70:=sizeOf331
 v70:=zeroValue331
 t76:=underlying349
 a76:=isAgg349
 z76:=sizeOf349
 v76:=zeroValue349
 t77:=underlying350
 a77:=isAgg350
 z77:=sizeOf350
 v77:=zeroValue350 }
end Go.Proofs
namespace Go.Abs
open Go Go.Proofs Go.RowKit
section
open Go.Shelf Go.Lib Go.Sort
def Lc{w:World}{I:Nat->Prop}{v:Value}{k:IntKind}{n:Int}(h:PVR w I v (.int k n)):v= .int k n:=by cases h;rfl
def Fs(x:Int×Int):List Value:=[.int .i64 x.1,.int .i64 x.2]
def j2a(x y:Int×Int):ltOf w0x x y=y29 x y:=z03 x y
def v2h{w:World}{I:Nat->Prop}{l:List (Int×Int)}{F:Array Value}(hR:RowW w I 2 (l.map pqr) F):flatK Fs 2 l.toArray=F:=by
 have z1:F.size=l.length * 2:=by have:=hR.size;simpa using this
 refine ext_get! (by simp[z1]) λt ht=>?_;have z6:t<l.length * 2:=by simpa using ht
 rw[get_flatK _ _ _ _ (by simpa using z6)];have hi:t / 2<l.length:=by omega
 rw[getElem!_pos l.toArray _ (by simpa using hi)];have hx:(l.map pqr)[t / 2]?=some (pqr l[t / 2]):=by simp[hi]
 have c0:=Lc (hR.cell _ _ hx 0 _ rfl);have c1:=Lc (hR.cell _ _ hx 1 _ rfl);have e0:l.toArray[t / 2]'(by simpa using hi)=l[t / 2]:=by simp
 rw[e0];have hm:t % 2=0\/t % 2=1:=by omega
 rcases hm with h|h<;>rw[h]
 ·have e1:t / 2 * 2+0=t:=by omega
  rw[e1]at c0;rw[c0];rfl
 have e1:t / 2 * 2+1=t:=by omega
 rw[e1]at c1;rw[c1];rfl
def q1w(H:List AObj)(p:Nat)(l:List (Int×Int))(hp:H[p]?=some (.arr 66 2 (l.map pqr)))(hl:l.length<=100000000):
  FC prog 130 [.sl p 2 0 l.length,.fn (.func 131) [] []] H
   (λr H'=>r= .tup []/\∃l':List (Int×Int),l'.Perm l/\l'.Pairwise (λx y=>y29 y x=false)/\H'=H.set p (.arr 66 2 (l'.map pqr))):=by
 refine(q0r (xs:=l.map pqr) (R3 func130 rfl rfl) (by simp) hp [.func (.func 131) #[] #[]] (λw I m vs a b=>H9 _ w I m _ vs a b) (λz8=>∃l':List (Int×Int),l'.Perm l/\l'.Pairwise (λx y=>y29 y x=false)/\z8=l'.map pqr) ?_ ?_).mono ?_
 ·intro w I b cap F hE hI zc hR hH hb hc;by_cases z6:l=[]
  ·subst z6;refine Calls.mono (AnyF.slices_SortFunc_none Tryz.sortPr (some ⟨b,0,none⟩) cap _ w) ?_;rintro e w' ⟨rfl,rfl⟩;refine⟨rfl,[],F,0,#[],⟨[],.refl _,.nil,rfl⟩,rfl,hR,?_⟩;rw[grow_empty];exact(putRow_self id w' b 0 F hH).symm
  have zd:0<l.length:=uK.2 z6;have eg:∀args w,(callFunc 131 args).run prog w= .ok (.enter 131 args) w:=enters_of func131 (by kernel_rfl) rfl;have ze:=v2h hR;have zf:HoldsK Fs 2 w b 0 l.toArray:=by unfold HoldsK;rw[ze];exact hH
  have z7:CmpLays prog 131 #[] Fs 2 w0x b 0 l.toArray.size w:=λq os dk hs x y=>by
   have hW:∀c,I c->(sortWorldK Fs 2 w b 0 q dk os).heap[c]? =w.heap[c]? :=λc za=>by have zg:=hI c za;have zh:b≠c:=λe=>zc (e▸za);simp only[sortWorldK,grow,putRowK,putRow,mapBlock,Sort.ahead];rw[yT (by simpa using zg),wR,if_neg zh]
   have zb:∀z:Int×Int,PVR w I (.agg (Fs z).toArray) (pqr z):=λz=>by
    refine .agg _ _ (by simp[Fs]) λi v x' hv z1=>?_
    match i,hv,z1 with
    |0,hv,z1=>simp[Fs]at hv z1;subst hv z1;exact .int _ _
    |1,hv,z1=>simp[Fs]at hv z1;subst hv z1;exact .int _ _
    |k+2,hv,z1=>simp[Fs]at hv
   refine(k15 x y).laid hE hI hW (by simp) λi v x' hv z1=>?_
   match i,hv,z1 with
   |0,hv,z1=>simp at hv z1;subst hv z1;exact zb x
   |1,hv,z1=>simp at hv z1;subst hv z1;exact zb y
  have:=AnyQ.slices_SortFunc Tryz.sortPr 2 isAgg66 sizeOf66 Fs (λ_=>rfl) (λx v hv=>by simp[Fs]at hv;rcases hv with rfl|rfl<;>rfl) w0x j0l 131 #[] b 0 cap l.toArray w eg z7 zf hb (by simp;omega);rw[show(l.toArray).size=l.length by simp]at this;refine Calls.mono this ?_;rintro e w' ⟨rfl,d',n,os,h1,h2,rfl⟩;obtain⟨s1,_,s3⟩:=h1;have hs:d'.toList.length=l.length:=by simpa using s1
  refine⟨rfl,d'.toList.map pqr,flatK Fs 2 d',n,os,⟨d'.toList,?_,?_,rfl⟩,by simp[hs],⟨by simp,λx hx=>?_,λi x hx j y hy=>?_⟩,rfl⟩
  ·rw[show d'.extract 0 l.length=d' by simp[<-hs],show l.toArray.extract 0 l.length=l.toArray by simp]at s3;simpa using s3
  ·refine yL.2 λi j hi hj zi=>?_;have:=h2 i j (xI _) zi (by omega);rw[j2a,getElem!_pos d' i (by simpa using hi),getElem!_pos d' j (by simpa using hj)]at this;simpa using this
  ·obtain⟨z,_,rfl⟩:=zQ.1 hx;rfl
  rw[zS]at hx;obtain⟨z,hz,rfl⟩:=zP.1 hx;obtain⟨hi,rfl⟩:=zB.1 hz;have hj:j<2:=(zB.1 hy).1;have zj:i<d'.size:=by simpa using hi
  rw[get_flatK _ _ _ _ (by omega)];rw[show(i * 2+j) / 2=i by omega,show(i * 2+j) % 2=j by omega];rw[getElem!_pos d' i zj]
  match j,hj,hy with
  |0,_,hy=>simp[pqr,AV.cells]at hy;subst hy;exact .int _ _
  |1,_,hy=>simp[pqr,AV.cells]at hy;subst hy;exact .int _ _
 ·rintro h;have z6:l=[]:=by
   cases l with
   |nil=>rfl
   |cons x r=>simp at h
  subst z6;exact⟨⟨[],.refl _,.nil,rfl⟩,λw=>AnyF.slices_SortFunc_none Tryz.sortPr none 0 _ w⟩
 rintro r H' ⟨rfl,z8,⟨l',h1,h2,rfl⟩,rfl⟩;exact⟨rfl,l',h1,h2,rfl⟩
end
section
open Go.Maps
structure ShI (a b:Aut) (L:List PQ) (V:List Vst) (q N i:Nat) (H:List AObj):Prop where
 ok:VOk V L
 di:DInv a b L
 h0:H[0]?=some (.vars (Qk a))
 h1:H[1]?=some (.vars (Qk b))
 h2:H[2]?=some (stQ (L.map (·.1)))
 h3:H[3]?=some (.vars [.mref 2])
 h5:H[5]?=some (.vars [.sl q 6 0 V.length])
 hq:H[q]?=some (.arr 176 6 (V.map Dm))
 hN:H[N]?=some (.vars [.i i])
 nl:5<N
def ShI.app{a b:Aut}{L:List PQ}{V:List Vst}{q N i:Nat}{H:List AObj}(h:ShI a b L V q N i H)(E:List AObj):ShI a b L V q N i (H++E):=
 ⟨h.ok,h.di,Qa h.h0 _,Qa h.h1 _,Qa h.h2 _,Qa h.h3 _,Qa h.h5 _,Qa h.hq _,Qa h.hN _,h.nl⟩
def ShI.setx{a b:Aut}{L:List PQ}{V:List Vst}{q N i:Nat}{H:List AObj}(h:ShI a b L V q N i H){j:Nat}(hj:5<j)(hq:j≠q)(hN:j≠N)(x:AObj):ShI a b L V q N i (H.set j x):=
 ⟨h.ok,h.di,Qd (by omega) h.h0 _,Qd (by omega) h.h1 _,Qd (by omega) h.h2 _,Qd (by omega) h.h3 _,Qd (by omega) h.h5 _,Qd hq h.hq _,Qd hN h.hN _,h.nl⟩
def ShI.cell{a b:Aut}{L:List PQ}{V:List Vst}{q N i:Nat}{H:List AObj}(h:ShI a b L V q N i H)(j:Nat):ShI a b L V q H.length j (H++[.vars [.i j]]):=
 ⟨h.ok,h.di,Qa h.h0 _,Qa h.h1 _,Qa h.h2 _,Qa h.h3 _,Qa h.h5 _,Qa h.hq _,by rw[zH (by simp)];simp,by have:=Qe h.hN;have:=h.nl;omega⟩
def ShI.qne{a b:Aut}{L:List PQ}{V:List Vst}{q N i:Nat}{H:List AObj}(h:ShI a b L V q N i H):q≠0/\q≠1/\q≠2/\q≠3/\q≠5/\q≠N:=by
 have hq:=h.hq;refine⟨λe=>?_,λe=>?_,λe=>?_,λe=>?_,λe=>?_,λe=>?_⟩
 ·rw[e,h.h0]at hq;simp at hq
 ·rw[e,h.h1]at hq;simp at hq
 ·rw[e,h.h2]at hq;simp[stQ]at hq
 ·rw[e,h.h3]at hq;simp at hq
 ·rw[e,h.h5]at hq;simp at hq
 rw[e,h.hN]at hq;simp at hq
def ShI.push {a b:Aut} {L:List PQ} {V:List Vst} {q N n:Nat} {H:List AObj} (h:ShI a b L V q N n H) {e:PQ} (hn:L[n]?=some e) {t:Int×Int} {x:Sy} (ht:inD a t.1/\inD b t.2) (z1:t∉L.map (·.1)) {Z:List AObj} {q':Nat} (hlen:H.length<=Z.length)
  (e2:Z[2]?=some (stQ (L.map (·.1)++[t]))) (e5:Z[5]?=some (.vars [.sl q' 6 0 (V.length+1)])) (eq:Z[q']?=some (.arr 176 6 (V.map Dm++[Dm ⟨t,n,x,false⟩]))) (ek:∀j,j≠2->j≠5->j≠q->j<H.length->Z[j]? =H[j]?):
  ShI a b (L++[(t,e.2++[x])]) (V++[⟨t,n,x,false⟩]) q' N n Z:=by
 obtain⟨n0,n1,n2,n3,n5,nN⟩:=h.qne;have z6:=h.nl;refine⟨h.ok.push hn t x,h.di.add ht z1,(ek 0 (by decide) (by decide) (Ne.symm n0) (Qe h.h0)).trans h.h0,(ek 1 (by decide) (by decide) (Ne.symm n1) (Qe h.h1)).trans h.h1,by rw[e2];simp,(ek 3 (by decide) (by decide) (Ne.symm n3) (Qe h.h3)).trans h.h3,by rw[e5];simp,by rw[eq];simp,(ek N (by omega) (by omega) (Ne.symm nN) (Qe h.hN)).trans h.hN,h.nl⟩
def d1o{a b:Aut}(ha:OkA a)(hb:OkA b){s:Int×Int}(h:inD a s.1/\inD b s.2):okQ s:=by
 have h1:=ha.fin;have h2:=hb.fin;unfold okQ;obtain⟨h3|h3,h4|h4⟩:=h
 ·omega
 ·have:=h4.1;have:=h4.2;omega
 ·have:=h3.1;have:=h3.2;omega
 have:=h3.1;have:=h3.2;have:=h4.1;have:=h4.2;omega
def DInv.okQ{a b:Aut}(ha:OkA a)(hb:OkA b){L:List PQ}(h:DInv a b L):∀s∈L.map (·.1),okQ s:=λs hs=>by obtain⟨e,he,rfl⟩:=zQ.1 hs;exact d1o ha hb (h.rng e he)
def Jb(w:List Sy):∀(es:List (Sy×(Int×Int))) (L:List PQ),∃E,Ev L w es=L++E
 |[],L=>⟨[],by simp[Ev]⟩
 |e::es,L=>by
  obtain⟨E,hE⟩:=Jb w es (j0i L e.2 (w++[e.1]));have h:Ev L w (e::es)=Ev (j0i L e.2 (w++[e.1])) w es:=rfl;rw[h,hE];unfold j0i;split
  ·exact⟨E,rfl⟩
  exact⟨_,by rw[xQ]⟩
def q0k(L:List PQ)(w:List Sy)(es:List (Sy×(Int×Int)))(e:Sy×(Int×Int)):Ev L w (es++[e])=j0i (Ev L w es) e.2 (w++[e.1]):=by unfold Ev;rw[List.foldl_append];rfl
def v1j(r:Option (List Sy)×List PQ):AV:=match r.1 with
 |some w=> .tup [LSy w,.bool true,LQp []]
 |none=> .tup [LSy [],.bool false,LQp (Jj (r.2.map (·.1)))]
def d1v{x y:Int×Int}(h:y29 y x=false):pLe x y=true:=by unfold y29 at h;unfold pLe;rw[<-uz]at h;simp only[wV,yF,decide_eq_true_eq]at *;omega
def v1p(a b:Aut)(wn:Bool->Bool->Bool):y1p a b wn=Vc (V1 wn a b) (Dh a b) ((a.fin.length+1) * (b.fin.length+1)+1) 0 [((0,0),[])]:=rfl
attribute [local irreducible] Dh Vc Ev y0w stQ Jj
def k0p(a b:Aut)(ha:Dta a)(hb:Dta b)(ht:b.types=a.types)(wn:Bool->Bool->Bool)(f:Nat)(zu:∀x y,PC prog f [.bool x,.bool y] (λr=>r= .bool (wn x y))):PC prog 67 [encA a,encA b,.fn (.func f) [] []] (λr=>r=v1j (y1p a b wn)):=by
 refine pcB func67 results67 ntmps67 ?_;simp only[Qf];simp only[encA];have y8:=ha.ok.fin;have y9:=hb.ok.fin;rw[v1p];obtain⟨R,hR⟩:∃R,Vc (V1 wn a b) (Dh a b) ((a.fin.length+1) * (b.fin.length+1)+1) 0 [((0,0),[])]=R:=⟨_,rfl⟩
 rw[hR];obtain⟨M,hM⟩:∃M,M=(a.fin.length+1) * (b.fin.length+1):=⟨_,rfl⟩
 have yy:M<=66049:=by rw[hM];exact yP (uw (tW y8.2) (tW y9.2)) (by decide)
 rw[<-hM]at hR;have hlen:=λL (h:DInv a b L)=>h.len;rw[<-hM]at hlen;repeat(refine s_ ?_;simp)
 refine Wx rfl rfl rfl ?_;simp;refine k0f rfl rfl rfl rfl (s:=(0,0)) rfl rfl rfl (by unfold okQ;decide) ?_;simp;repeat(refine s_ ?_;simp)
 have zv:ShI a b [((0,0),[])] [⟨(0,0),0,⟨0,0⟩,true⟩] 4 6 0 [.vars (Qk a),.vars (Qk b),stQ [(0,0)],.vars [.mref 2],.arr 176 6 [.agg [.i 0,.i 0,.i 0,.i 0,.i 0,.bool true]],.vars [.sl 4 6 0 1],.vars [.i 0]]:=
  ⟨VOk.start,DInv.start ha.ok hb.ok,rfl,rfl,rfl,rfl,rfl,rfl,rfl,by decide⟩
 have zw:∀s,V1 wn a b s=wn (y0w a s.1) (y0w b s.2):=λ_=>rfl;have zx:=λs e h=>q28 ha hb ht (s:=s) (e:=e) h;refine Qj (Qc (sl':=[(2,.fn (.func f) [] []),(3,.vptr 0 0),(4,.vptr 1 0),(9,.vptr 3 0),(10,.vptr 5 0),(11,.vptr 6 0)]) ?_ (by simp));refine Qi (P:=prog) (F:=λ(u:Nat×Nat×Nat×List PQ×List Vst×List AObj)=>⟨[(2,.fn (.func f) [] []),(3,.vptr 0 0),(4,.vptr 1 0),(9,.vptr 3 0),(10,.vptr 5 0),(11,.vptr u.2.1 0)],u.2.2.2.2.2⟩)
  (λu=>u.1<=u.2.2.2.1.length/\ShI a b u.2.2.2.1 u.2.2.2.2.1 u.2.2.1 u.2.1 u.1 u.2.2.2.2.2/\Vc (V1 wn a b) (Dh a b) (M+1 - u.1) u.1 u.2.2.2.1=R) (λu=>M+1 - u.1) ?_ (0,6,4,_,_,_) ⟨by simp,zv,hR⟩
 clear hR zv;rintro⟨i,N,q,L,V,H⟩ ⟨hi,hS,hB⟩ ih;simp only at hi hS hB ih |-;have yz:=hlen L hS.di;have x0:=hS.ok.len;have x1:=hS.nl;have ya:=hS.qne;repeat(refine s_ ?_;simp[hS.hN,hS.h5])
 refine Qb rfl (λyb=>?_) (λyc=>?_)
 ·have ze:i<V.length:=by simpa using yb
  have hw:=wz i (by omega);obtain⟨v,hv⟩:∃v,V[i]?=some v:=⟨_,zI ze⟩
  obtain⟨⟨s,w⟩,he⟩:∃e,L[i]?=some e:=⟨_,zI (by omega)⟩
  have zy:=hS.ok.key i v _ hv he;have zj:=hS.di.rng _ (zJ he);simp only at zy zj;have cW:=k1r V L hS.ok i _ he (by omega);rw[show M+1 - i=(M - i)+1 by omega,f09 he,zw]at hB;have zc:(V.map Dm)[i]?=some (Dm v):=by rw[zS,hv];rfl
  have zf:∀hh,(V.map Dm)[i]'hh=Dm v:=λhh=>(zY hh).2 zc;simp only[Dm,zy]at zc zf;have cFa:=Bm a s.1 zj.1;have cFb:=Bm b s.2 zj.2;have cWn:=zu (y0w a s.1) (y0w b s.2);have cLe:=j03 a b s;simp only[encA,pqr]at cFa cFb cLe;generalize wn (y0w a s.1) (y0w b s.2)=wv at *
  repeat(refine s_ ?_;simp[hS.hN,hS.h5,hS.hq,zc,zf,ze])
  have z8:=hS.app [.vars [.i s.1,.i s.2]];have zd:(H++[AObj.vars [.i s.1,.i s.2]])[H.length]?=some (.vars [.i s.1,.i s.2]):=by rw[zH (by simp)];simp
  have x3:=Qe hS.hN;clear hS;generalize H++[AObj.vars [.i s.1,.i s.2]]=Y at *;generalize H.length=x at *;clear H
  have y0:=z8.h0;have y1:=z8.h1;refine Qo tOk mixed [] (.val 0 (.val 1 (.val 2 (.val 3 (.val 5 (.val 6 (.val 7 (.one 4 (.one 8 (.one 9 (.done))))))))))) rfl (by kernel_rfl) ?_;simp[y0,y1,zd];refine pcL (cFa) ?_;simp[y0,y1,zd];refine pcL (cFb) ?_;simp[y0,y1,zd];refine pcL (cWn) ?_;simp[y0,y1,zd];refine Qb rfl (λhd=>?_) (λhd=>?_)
  ·rw[if_pos hd]at hB;subst hB;have y5:=z8.h5;have yN:=z8.hN;repeat(refine s_ ?_;simp[y5,yN])
   refine Z8 q z8.hq 5 y5 (Ne.symm ya.2.2.2.2.1) rfl ?_;simp[AObj.fz,AV.fz];rw[zV (by simp)];refine pcL (cW) ?_;simp;repeat(refine s_ ?_;simp)
   rfl
  rw[if_neg (by rw[hd];simp)]at hB;repeat(refine s_ ?_;simp[y0,y1,zd])
  refine pcL (cLe) ?_;simp;refine Qn (sl':=[(2,.fn (.func f) [] []),(3,.vptr 0 0),(4,.vptr 1 0),(9,.vptr 3 0),(10,.vptr 5 0),(11,.vptr N 0),(12,.vptr x 0),(49,.fn (.func 190) [] [.iptr (Qk a),.iptr [.i s.1,.i s.2],.iptr (Qk b)])]) ?_ (by simp);have x4:=Qe z8.hN;have x7:=Qe z8.hq;have yd:=Qe zd;repeat(refine s_ ?_;simp)
  refine W5 rfl (Rf:=λ_ H'=>∃q' V',ShI a b (Ev L w (Dh a b s)) V' q' N i H'/\Y.length<=H'.length/\∃sl' zk a' b',H'[Y.length]?=some (.lp true none 84 sl' zk a' b')) ?_ ?_
  ·simp;refine Sd λH1 zi=>?_;have fS:ShI a b L V q N i H1:=by rw[zi];exact z8.app _
   have fl:H1.length=Y.length+1:=by rw[zi];simp
   have fq:=congrArg (λh:List AObj=>h[Y.length]?) zi;simp at fq;clear zi;refine FC.mono (j0b a b ha.ok hb.ok ht ha hb s Y.length (by rfl) (by rfl)
    (λpre K=>∃q' V',ShI a b (Ev L w pre) V' q' N i K/\K[Y.length]? =H1[Y.length]?) (λ_ _=>False) H1 (λpre K ⟨q',V',h1,h2⟩=>h2.trans fq)
    (λpre K E ⟨q',V',h1,h2⟩=>⟨q',V',h1.app E,by rw[<-h2,zF (Qe (h2.trans fq))]⟩) ?_ ⟨q,V,by rw[k0z];exact fS,rfl⟩) ?_
   ·rintro pre e post K heq ⟨q',V',zl,ye⟩ hlen1;simp[E7];have h8:=ye.trans fq;have z1:Y.length≠q':=λe=>by have:=zl.hq;rw[<-e,h8]at this;simp at this
    have z6:Y.length≠N:=λe=>by have:=zl.hN;rw[<-e,h8]at this;simp at this
    have hd:=zl.setx (j:=Y.length) (by omega) z1 z6 .dead;have d6:=Qg h8 .dead;have dl:(K.set Y.length .dead).length=K.length:=by simp
    have zm:∀j,j≠Y.length->(K.set Y.length .dead)[j]? =K[j]? :=λj hj=>by rw[zE (Ne.symm hj)]
    generalize K.set Y.length .dead=Z at *
    have zn:=zx s e (by rw[heq];simp);obtain⟨E0,yf⟩:=Jb w pre L;have yg:(Ev L w pre)[i]?=some (s,w):=by rw[yf,zF (zB.1 he).1];exact he
    have zo:=q0k L w pre e;have zp:=hlen _ hd.di;have yh:=hd.ok.len;have zg:=hd.di.okQ ha.ok hb.ok;have za:=d1o ha.ok hb.ok zn;generalize Ev L w pre=L2 at *;rw[zo]
    obtain⟨⟨ty,num⟩,t⟩:=e;simp only[Er];simp only at zn za;have zz:∀E,ShI a b L2 V' q' N i (Z++E):=λE=>hd.app E;have z3:=λE=>(zz E).h3;have z2:=λE=>(zz E).h2;repeat(refine s_ ?_;simp[z3])
    refine q05 rfl rfl rfl rfl (s:=t) rfl (z2 _) zg za ?_;simp;repeat(refine s_ ?_;simp)
    by_cases hm:t∈L2.map (·.1)
    ·have hA:j0i L2 t (w++[⟨ty,num⟩])=L2:=if_pos hm;rw[hA];refine Qb rfl (λh=>by rw[decide_eq_true hm]at h;cases h) (λ_=>?_);repeat(refine s_ ?_;simp)
     refine⟨Qa d6 _,rfl,⟨⟨q',V',(hd.app _).setx (by omega) z1 z6 _⟩,by rw[fq];exact Qg (Qa d6 _) _⟩,λj cs hj hc=>?_⟩;have zb:j≠Y.length:=by omega
     exact Qd (Ne.symm zb) (Qa ((zm j zb).trans hc) _) _
    have hA:j0i L2 t (w++[⟨ty,num⟩])=L2++[(t,w++[⟨ty,num⟩])]:=if_neg hm;rw[hA];refine Qb rfl (λ_=>?_) (λh=>by rw[decide_eq_false hm]at h;cases h);repeat(refine s_ ?_;simp[z3])
    refine u0z rfl rfl rfl rfl (s:=t) rfl rfl (z2 _) zg za hm ?_;simp;refine Q4 λW hW=>?_;have x8:=Qe hd.h2;have yi:=Qe hd.h5;have yj:=Qe hd.hN;have yk:=Qe hd.hq;obtain⟨m0,m1,m2,m3,m5,mN⟩:=hd.qne;have w2:W[2]?=some (stQ (L2.map (·.1)++[t])):=by rw[hW,zK (by simp;omega)]
    have wt:W[Z.length]?=some (.vars [.i ty,.i num,.i t.1,.i t.2]):=by rw[hW,zE (by omega),zH (by simp)];simp
    have wk:∀j,j≠2->j<Z.length->W[j]? =Z[j]? :=λj h1 h2=>by rw[hW,zE (Ne.symm h1),zF h2]
    have wl:W.length=Z.length+1:=by rw[hW];simp
    have w5:=(wk 5 (by decide) yi).trans hd.h5;have wN:=(wk N (by omega) yj).trans hd.hN;have wq:=(wk q' m2 yk).trans hd.hq;have w6:=(wk Y.length (by omega) (Qe d6)).trans d6;clear hW;have y2:(V'.map Dm).length=V'.length:=by simp
    repeat(refine s_ ?_;simp[w5,wt,wN])
    have w5s:∀E,(W.set q' .dead++E)[5]?=some (.vars [.sl q' 6 0 V'.length]):=λE=>Qa (Qd m5 w5 _) _;refine apS g2g g2j ?_;simp[Qa wq,Qh wq,y2,w5s];refine⟨by simp[Wg,Qa wq,Qh wq,y2,w5s]<;>omega,?_⟩;repeat(refine s_ ?_;simp)
    obtain⟨X,hX⟩:∃X,X=(W.set q' .dead++[AObj.arr 176 6 [.agg [.i t.1,.i t.2,.i i,.i ty,.i num,.bool false]],AObj.arr 176 6 (V'.map Dm++[.agg [.i t.1,.i t.2,.i i,.i ty,.i num,.bool false]])]).set 5 (.vars [.sl (W.length+1) 6 0 (V'.length+1)]):=⟨_,rfl⟩
    rw[<-hX];have x9:W.length+1<X.length:=by rw[hX];simp
    have yl:Z.length<=X.length:=by omega
    have x2:X[2]?=some (stQ (L2.map (·.1)++[t])):=by rw[hX];exact Qd (by decide) (Qa (Qd m2 w2 _) _) _
    have x5:X[5]?=some (.vars [.sl (W.length+1) 6 0 (V'.length+1)]):=by rw[hX];exact Qg (w5s _) _
    have xq:X[W.length+1]?=some (.arr 176 6 (V'.map Dm++[Dm ⟨t,i,⟨ty,num⟩,false⟩])):=by rw[hX,zE (by omega),zH (by simp)];simp[Dm]
    have xk:∀j,j≠2->j≠5->j≠q'->j<Z.length->X[j]? =Z[j]? :=λj h1 h2 h3 h4=>by rw[hX,zE (Ne.symm h2),zF (by simp;omega),zE (Ne.symm h3)];exact wk j h1 h4
    clear hX;have zh:=hd.push yg zn hm (x:=⟨ty,num⟩) yl x2 x5 xq xk;have x6:X[Y.length]?=some .dead:=(xk _ (by omega) (by omega) z1 (Qe d6)).trans d6;refine⟨x6,rfl,⟨⟨W.length+1,V'++[⟨t,i,⟨ty,num⟩,false⟩],zh.setx (by omega) (by have:=Qe d6;omega) z6 _⟩,by rw[fq];exact Qg x6 _⟩,λj cs hj hc=>?_⟩;have zb:j≠Y.length:=by omega
    have ym:j≠q':=λe=>by rw[e]at hc zb;rw[zm _ zb |>.symm,hd.hq]at hc;cases hc
    exact Qd (Ne.symm zb) ((xk j (by omega) (by omega) ym (by have:=Qe hc;omega)).trans ((zm j zb).trans hc)) _
   rintro _ H' (⟨q',V',h1,h2⟩|⟨c,h⟩)
   ·exact⟨⟨q',V',h1⟩,Nat.le_of_lt (Qe (h2.trans fq)),_,_,_,_,h2.trans fq⟩
   exact h.elim
  rintro res H' ⟨q',V',h1,h2,sl',zk,a',b',h3⟩;refine⟨true,none,84,sl',zk,a',b',by simpa using h3,?_⟩;simp;have z1:Y.length≠q':=λe=>by have:=h1.hq;rw[<-e,h3]at this;simp at this
  have z6:Y.length≠N:=λe=>by have:=h1.hN;rw[<-e,h3]at this;simp at this
  have zq:=h1.setx (j:=Y.length) (by omega) z1 z6 .dead;obtain⟨E,hE⟩:=Jb w (Dh a b s) L;have xa:i<(Ev L w (Dh a b s)).length:=by rw[hE,zW];omega
  clear h1 h3;generalize H'.set Y.length .dead=Z at *;generalize Ev L w (Dh a b s)=L2 at *
  have dN:=zq.hN;have zp:=hlen L2 zq.di;repeat(refine s_ ?_;simp[dN,hw])
  refine Qc (sl':=[(2,.fn (.func f) [] []),(3,.vptr 0 0),(4,.vptr 1 0),(9,.vptr 3 0),(10,.vptr 5 0),(11,.vptr Z.length 0)]) ?_ (by simp);exact ih (i+1,Z.length,q',L2,V',_) ⟨by simp only;omega,zq.cell (i+1),by rw[show M+1 - (i+1)=M - i by omega];exact hB⟩ (by simp only;omega)
 have yn:L.length<=i:=by simp at yc;omega
 rw[w16 (by rw[List.getElem?_eq_none_iff];omega)]at hB;subst hB;rw[show v1j (none,L)= .tup [.list [],.bool false,LQp (Jj (L.map (·.1)))] from rfl];have yo:=hS.di.nd;have y3:=hS.ok.pairs;have yp:=hS.h5;have yq:=hS.hq;clear ih zx zw hlen zu;refine Qn (sl':=[(10,.vptr 5 0)]) ?_ (by simp);repeat(refine s_ ?_;simp[yp])
 refine Q3 14 66 2 rfl ?_;simp;have hst:=SL.start H 66 2;refine Qj (Qc (sl':=[(14,.sl H.length 2 0 (0:Nat)),(69,.sl q 6 0 V.length),(70,.i V.length),(71,.i (0:Nat))]) ?_ (by simp));refine Qi (P:=prog) (F:=λ(u:Nat×Nat×List AObj)=>⟨[(14,.sl u.2.1 2 0 u.1),(69,.sl q 6 0 V.length),(70,.i V.length),(71,.i u.1)],u.2.2⟩)
  (λu=>u.1<=V.length/\SL H u.2.2 u.2.1 66 2 (((V.take u.1).map (·.s)).map pqr)) (λu=>V.length - u.1) ?_ (0,H.length,_) ⟨xI _,by simpa using hst⟩
 rintro⟨j,p,G⟩ ⟨hj,g⟩ ih;simp only at hj g ih |-;repeat(refine s_ ?_;simp)
 refine Qb rfl (λzr=>?_) (λzt=>?_)
 ·have z7:j<V.length:=by simpa using zr
  have yr:=wz j (by omega);have y4:(V.take (j+1)).map (·.s)=(V.take j).map (·.s)++[V[j].s]:=by rw[zU z7,yR];rfl
  have yt:((V.take j).map (·.s)).length=j:=by simp;omega
  have y6:=λq' G'=>ih (j+1,q',G');simp only[y4]at y6;have zc:(V.map Dm)[j]?=some (Dm V[j]):=by simp[z7]
  have zf:∀hh,(V.map Dm)[j]'hh=Dm V[j]:=λhh=>by simp
  clear y4;generalize (V.take j).map (·.s)=acc at *
  generalize V[j]=v at *
  have gq:=g.kp yq;have y7:(acc.map pqr).length=j:=by simp[yt]
  simp only[Dm]at zc zf;repeat(refine s_ ?_;simp[gq,zc,zf,z7])
  refine apS T41 T66 ?_;simp[Qa g.arr,Qh g.arr,y7];refine⟨by simp[Wg,Qa g.arr,Qh g.arr,y7]<;>omega,?_⟩;repeat(refine s_ ?_;simp[yr])
  refine Qc (sl':=[(14,.sl (G.length+2) 2 0 (j+1)),(69,.sl q 6 0 V.length),(70,.i V.length),(71,.i (j+1:Nat))]) ?_ (by simp);have:=y6 (G.length+2) _ ⟨by omega,g.put [AObj.vars [.i v.s.1,.i v.s.2,.i v.fr,.i v.on.ty,.i v.on.num,.bool v.fst],AObj.arr 66 2 [pqr v.s]] ((acc++[v.s]).map pqr) rfl⟩ (by omega);simpa[pqr]using this
 have yu:j=V.length:=by simp at zt;omega
 subst yu;rw[yI,y3]at g;have yv:(L.map (·.1)).length=V.length:=by rw[<-y3];simp
 generalize L.map (·.1)=K at *
 rw[<-yv];repeat(refine s_ ?_;simp)
 refine Qu rfl rfl (q1w G p K g.arr (by omega)) rfl ?_;rintro _ _ ⟨rfl,K',hp,hs,rfl⟩;have yw:K'=Jj K:=x09 yo hp (hs.imp λh=>d1v h);have yx:∀z,(G.set p z)[p]?=some z:=λz=>Qg g.arr z;have xb:K'.length=K.length:=hp.length_eq;simp;repeat(refine s_ ?_;simp[yx])
 rw[if_pos (by omega),zV (by simp;omega),yw];rfl
end
section
open Go.Maps
def x1g(x y:Bool):PC prog 68 [.bool x,.bool y] (λr=>r= .bool (neB x y)):=by
 refine pcB func68 results68 ntmps68 ?_;simp only[Qf];repeat(refine s_ ?_;simp)
 cases x<;>cases y<;>rfl
def v2i(r:(List Sy×Bool)×Int):AV:= .tup [LSy r.1.1,.bool r.1.2,.i r.2]
attribute [local irreducible] y1p Jj E9 Wv
def q2f(a b:Aut):Aut:=if E9 a b≠0 then Ty else(Wv a).2
def z2i(a b:Aut):Aut:=if E9 a b≠0 then Ty else if(Wv a).1≠0 then Ty else(Wv b).2
def q2g(a b:Aut):PC prog 66 [encA a,encA b] (λr=>r= .tup [encA (q2f a b),encA (z2i a b),.i (Ij a b)]):=by
 refine pcB func66 results66 ntmps66 ?_;simp only[Qf];have cB:=k1t a b;have cD:=Ex a;have cE:=Ex b;simp only[encA]at cB cD cE |-;obtain⟨X,hX⟩:∃X,q2f a b=X:=⟨_,rfl⟩
 obtain⟨Y,hY⟩:∃Y,z2i a b=Y:=⟨_,rfl⟩
 obtain⟨R,hR⟩:∃R,Ij a b=R:=⟨_,rfl⟩
 rw[hX,hY,hR];unfold q2f at hX;unfold z2i at hY;unfold Ij at hR;repeat(refine s_ ?_;simp)
 refine pcL (cB) ?_;simp;repeat(refine s_ ?_;simp)
 refine Qb rfl (λh=>?_) (λh=>?_)
 ·have h':E9 a b≠0:=by simpa using h
  rw[if_pos h']at hX hY hR;subst hX;subst hY;subst hR;repeat(refine s_ ?_;simp)
  refine Qo tOk mixed [3,4] (.val 0 (.val 2 (.two 1 (.one 3 (.one 4 (.val 5 (.done)))) 3 (.val 1 (.one 4 (.val 5 (.done))))))) rfl (by kernel_rfl) ?_;simp;repeat(refine s_ ?_;simp)
  exact⟨rfl,rfl,rfl⟩
 have h':¬E9 a b≠0:=by simpa using h
 rw[if_neg h']at hX hY hR;repeat(refine s_ ?_;simp)
 refine pcL (cD) ?_;simp;repeat(refine s_ ?_;simp)
 refine Qb rfl (λh2=>?_) (λh2=>?_)
 ·have z1:(Wv a).1≠0:=by simpa using h2
  rw[if_pos z1]at hY hR;subst hX;subst hY;subst hR;repeat(refine s_ ?_;simp)
  refine Qo tOk mixed [3,4] (.val 0 (.val 2 (.two 1 (.one 3 (.one 4 (.val 5 (.done)))) 3 (.val 1 (.one 4 (.val 5 (.done))))))) rfl (by kernel_rfl) ?_;simp;repeat(refine s_ ?_;simp)
  exact⟨rfl,rfl,rfl⟩
 rw[if_neg (by simpa using h2)]at hY hR;repeat(refine s_ ?_;simp)
 refine pcL (cE) ?_;simp;repeat(refine s_ ?_;simp)
 refine Qo tOk mixed [3,4] (.val 0 (.val 2 (.two 1 (.one 3 (.one 4 (.val 5 (.done)))) 3 (.val 1 (.one 4 (.val 5 (.done))))))) rfl (by kernel_rfl) ?_;simp;repeat(refine s_ ?_;simp)
 subst hX;subst hY;exact⟨⟨rfl,rfl,rfl⟩,⟨rfl,rfl,rfl⟩,hR⟩
def u14{a b:Aut}(h:Ij a b=0):Dta (Wv a).2/\Dta (Wv b).2/\(Wv b).2.types=(Wv a).2.types/\q2f a b=(Wv a).2/\z2i a b=(Wv b).2:=by
 have hb:E9 a b=0:=by
  by_cases k:E9 a b=0
  ·exact k
  unfold Ij at h;rw[if_pos k]at h;exact absurd h k
 obtain⟨h1,h2,h3⟩:=Sn.1 hb;obtain⟨d1,d2⟩:=(Hs hb).1 h;obtain⟨_,_,_,_,_,_,o1,o2,o3,_⟩:=Tk h1 (Pc d1);obtain⟨_,_,_,_,_,_,p1,p2,p3,_⟩:=Tk h2 (Pc d2);refine⟨⟨o1,o2⟩,⟨p1,p2⟩,by rw[p3,o3,h3],?_,?_⟩
 ·unfold q2f;rw[if_neg (by simpa using hb)]
 unfold z2i;rw[if_neg (by simpa using hb),if_neg (by simpa using d1)]
attribute [local irreducible] Ij q2f z2i
def Bc(a b:Aut):PC prog 21 [encA a,encA b] (λr=>r=v2i (w1g a b)):=by
 refine pcB func21 results21 ntmps21 ?_;simp only[Qf];obtain⟨R,hR⟩:∃R,w1g a b=R:=⟨_,rfl⟩
 rw[hR];unfold w1g at hR;have cD:=q2g a b;have z1:Ij a b=0->_:=λh=>u14 h;simp only[encA]at cD |-;repeat(refine s_ ?_;simp)
 refine pcL (cD) ?_;simp;repeat(refine s_ ?_;simp)
 refine Qb rfl (λh=>?_) (λh=>?_)
 ·have h':Ij a b≠0:=by simpa using h
  rw[if_pos h']at hR;subst hR;repeat(refine s_ ?_;simp)
  rfl
 have h':Ij a b=0:=by simpa using h
 rw[if_neg (λk=>k h')]at hR;obtain⟨ha,hb,ht,hx,hy⟩:=z1 h';have cS:=k0p (Wv a).2 (Wv b).2 ha hb ht neB 68 x1g;rw[<-hx,<-hy]at cS hR;generalize q2f a b=X at *;generalize z2i a b=Y at *
 obtain⟨⟨ow,L⟩,hS⟩:∃p,y1p X Y neB=p:=⟨_,rfl⟩
 rw[hS]at hR cS;simp only[encA]at cS;cases ow with
 |some w=>
  simp only at hR;subst hR;repeat(refine s_ ?_;simp)
  refine pcL (cS) ?_;simp[v1j];repeat(refine s_ ?_;simp)
  rfl
 |none=>
  simp only at hR;subst hR;repeat(refine s_ ?_;simp)
  refine pcL (cS) ?_;simp[v1j];repeat(refine s_ ?_;simp)
  rfl
end
section
open Go.Maps
attribute [local irreducible] E5
end
section
open Go.Maps
attribute [local irreducible] Jd Ea Vm inS
end
end Go.Abs
