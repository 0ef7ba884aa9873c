/- Part Ze of the proof: steps on the way to the last part. No condition. -/
import Derived.Test.YtdcnaocpompcpaaGreatDoorZd
import Derived.Test.YtdcnaocpompcpaaGreatDoorZc
import Derived.Test.YtdcnaocpompcpaaGreatDoorZb
import Derived.Shelf.Small.Strs
import Derived.Shelf.LaysM
import Derived.Shelf.Strconv.Itoa3
import Derived.Shelf.LaysC
import Derived.Shelf.Strconv.AtoiInnerAll
import Derived.Shelf.Strconv.AtoiAll
import Derived.Test.YtdcnaocpompcpaaGreatDoorProg
import Derived.Lib.ItoaLen
import Derived.Lib.ItoaMem
import Derived.Lib.AppendIntMem
import Derived.Lib.AtoiAll
set_option linter.all false
open List renaming set_eq_take_append_cons_drop->wh,map_drop->uE,getElem?_eq_some_iff->zD,getElem?_set_self->zJ,getElem?_set_ne->zI,getElem?_map->zU,mem_of_getElem?->zE,getElem_eq_iff->yR,map_set->xw,getElem?_eq_getElem->zG,getElem?_set->zW,take->xJ,drop->xS,take_of_length_le->zY,map_cons->z_,map_nil->yM,take_succ_eq_append_getElem->yI,map_append->xG,sum_append->vn,sum_cons->xH,sum_nil->uG,length_map->xp,all_append->vE,all_cons->wg,all_nil->uH,getElem_mem->yB,drop_eq_getElem_cons->yU,filter_append->vf,filter_cons->wu,foldl_append->uc,foldl_cons->xK,range->xV,ext_getElem?->xk,getElem?_eq_none->wb,all_eq_true->zV,mem_map->xg,nil_append->wo,cons_append->xX,dropWhile_cons->xI,dropWhile_sublist->vJ,mem_cons->y_,length_pos_iff->vX,drop_length->uh,take_length->yV,takeWhile_cons->xj,length_cons->yQ,pairwise_iff_getElem->xW,pairwise_cons->xO,getElem_cons_zero->wV,length_take->vw,take_append_drop->yN,replicate->zH,drop_eq_nil_of_le->xE,take_append->vl,getElem?_append_left->zK,mem_of_mem_drop->wd,mem_of_mem_take->xL,append_nil->xY,isPrefixOf_iff_prefix->xh,filter_cons_of_neg->wJ,filter_cons_of_pos->vG,getElem_cons_succ->vK,length_nil->wH,filter_eq_self->vc,getElem_map->ui,set_getElem_self->vP,getElem?_append_right->zF,mem_cons_of_mem->xA,getElem?_cons_zero->xr,mem_iff_getElem?->xm,getElem_set->uj,mem_append->xu,pairwise_map->ud,foldl_nil->vk
open Nat renaming le_refl->zR,add_zero->wy,le_trans->yD,min->xF,min_eq_left->wR,lt_or_ge->wa,zero_add->yW,strongRecOn->vr
open Bool renaming eq_iff_iff->ut,or_eq_true->yE,and_eq_true->zX,or_eq_false_iff->vU,false_eq_true->wF
open Option renaming getD_some->xQ
open Int renaming eq_ofNat_of_zero_le->xR
set_option maxHeartbeats 8000000
set_option linter.unusedSimpArgs false
set_option maxRecDepth 100000
open Go.Proofs.Tryz
namespace Go.Abs
section
open Go Go.Proofs
def L5(l:List Att)(k:Nat)(x:AV)(h:k<l.length):(l.map encAt).set k x=(l.take k).map encAt++x::(l.drop (k+1)).map encAt:=by rw[wh,if_pos (by simpa using h),List.map_take,uE]
def Gm(l:List Att)(k:Nat)(x:Att)(h:k<l.length):l.set k x=l.take k++x::l.drop (k+1):=by rw[wh,if_pos h]
def Bp(a:Att)(w:Nat)(o:Opr)(O B:Nat):Y5 (Pa a w o) O B=Y5 a O B:=by simp[Y5,Pa]
def k00{c:Crd}{k:Nat}{a:Att}{O B:Nat}(ha:c.atts[k]?=some a):∀(i:Nat) (b:Att),c.atts[i]?=some b->∃x y z:AV,((c.atts.map encAt).set k (Y5 a O B))[i]?=some (AV.agg [.i b.num,x,y,z]):=λi b hb=>by
 have hl:=(zD.1 ha).1;by_cases e:k=i
 ·subst e;rw[ha]at hb;obtain rfl:=Option.some.inj hb;exact⟨_,_,_,by rw[zJ (by simpa using hl)];rfl⟩
 exact⟨_,_,_,by rw[zI e,zU,hb];rfl⟩
def x0f{c:Crd}:∀(i:Nat) (b:Att),c.atts[i]?=some b->∃x y z:AV,(c.atts.map encAt)[i]?=some (AV.agg [.i b.num,x,y,z]):=λi b hb=>⟨_,_,_,by rw[zU,hb];rfl⟩
def Mg{R W:Nat}{c:Crd}(h:WfC R W c)(m w:Int)(o:Opr)(z8:∀a∈c.atts,a.num≠m):PC prog 14 [encCr c,.i m,.i w,avOpr o] (λr=>r= .tup [encCr ⟨0,[],0⟩,.i 6]):=by
 refine pcB func14 results14 ntmps14 ?_;simp only[Qf];have cC:=Ug h;have hs:=h.short;have hW:=λH=>Jg c hs c.atts.length H;simp only[encCr,avOpr]at cC hW |-;repeat(refine s_ ?_;simp)
 refine pcL (cC) ?_;simp;repeat(refine s_ ?_;simp)
 refine Qh rfl ?_;simp;repeat(refine s_ ?_;simp)
 refine Qd rfl rfl (hW _) rfl ?_;rintro r Y ⟨hx,A,O,B,rows,rfl,hA,hY,hR⟩;have z1:=hR.1 (zR _);subst z1;have y2:=hx 2 _ rfl;clear hR hx;simp;repeat(refine s_ ?_;simp)
 have za:=Qc hY [AObj.vars [.i c.next,.sl A 4 0 c.atts.length,.i c.dur]];have y22:=Qc y2 [AObj.vars [.i c.next,.sl A 4 0 c.atts.length,.i c.dur]];generalize Y++[AObj.vars [.i c.next,.sl A 4 0 c.atts.length,.i c.dur]]=E at *
 refine Qd rfl rfl (V2 c hs.1 c.next c.dur m A _ E za x0f) rfl ?_;rintro r V ⟨hv,⟨k',a',zb,zc,rfl⟩|⟨_,rfl⟩⟩
 ·exact absurd zc (z8 a' (zE zb))
 have v2:=hv _ _ y22;have v3:=Qe v2 (.vars [.i 0,.nils,.i 0]);simp;repeat(refine s_ ?_;simp)
 refine Qh rfl ?_;simp;repeat(refine s_ ?_;simp[v2,v3])
def Lj{R W:Nat}{c:Crd}(h:WfC R W c){k w:Nat}{a:Att}(ha:c.atts[k]?=some a)(hw:a.hv[w]?=some false)(hp:∀b,U4 c.atts k=some b->b.hv[w]?=some true)(ms:List Int)(y6:ms.length<=1000):PC prog 14 [encCr c,.i a.num,.i w,avOpr ⟨ms,[]⟩] (λr=>r= .tup [encCr (w0b c k w ⟨ms,[]⟩),.i 0]):=by
 refine pcB func14 results14 ntmps14 ?_;simp only[Qf];have cC:=Ug h;have hs:=h.short;have hW:=λH=>Jg c hs k H;have cI:=f02 ms (by omega);have cK:=c0l [] (by simp);have zj:∀(i:Nat) (b:Att),c.atts[i]?=some b->b.num=a.num->i=k:=λi b hb hn=>by
  rcases Nat.lt_trichotomy i k with e|e|e
  ·have:=h.asc e hb ha;omega
  ·exact e
  have:=h.asc e ha hb;omega
 have zu:=h.get ha;have zg:=(zD.1 hw).1;have zi:=(zD.1 hw).2;have zf:w<a.ops.length:=by rw[zu.opl,<-zu.hvl];exact zg
 have zq:=(zD.1 ha).1;simp only[encCr,avOpr]at cC hW cI cK |-;repeat(refine s_ ?_;simp)
 refine pcL (cC) ?_;simp;repeat(refine s_ ?_;simp)
 refine Qh rfl ?_;simp;repeat(refine s_ ?_;simp)
 refine Qd rfl rfl (hW _) rfl ?_;rintro r Y ⟨hx,A,O,B,rows,rfl,hA,hY,hR⟩;obtain⟨r1,r2,r3,r4,r5,r6,r7,r8⟩:=hR.2 a ha;subst r1;have y1:=hx 1 _ rfl;have y2:=hx 2 _ rfl;have y7:3<=O/\3<=B/\3<=A:=⟨by simpa using r2,by simpa using r3,by simpa using hA⟩
 have y8:O<Y.length/\B<Y.length/\A<Y.length:=⟨Ql r7,Ql r8,Ql hY⟩
 have zx:=Ql y2;clear hR hx;simp;repeat(refine s_ ?_;simp)
 have e0:=Qc hY [AObj.vars [.i c.next,.sl A 4 0 c.atts.length,.i c.dur]];have e1:=Qc y1 [AObj.vars [.i c.next,.sl A 4 0 c.atts.length,.i c.dur]];have e2:=Qc y2 [AObj.vars [.i c.next,.sl A 4 0 c.atts.length,.i c.dur]];have e7:=Qc r7 [AObj.vars [.i c.next,.sl A 4 0 c.atts.length,.i c.dur]];have e8:=Qc r8 [AObj.vars [.i c.next,.sl A 4 0 c.atts.length,.i c.dur]];have eN:(Y++[AObj.vars [.i c.next,.sl A 4 0 c.atts.length,.i c.dur]])[Y.length]?=some (.vars [.i c.next,.sl A 4 0 c.atts.length,.i c.dur]):=by simp
 generalize Y++[AObj.vars [.i c.next,.sl A 4 0 c.atts.length,.i c.dur]]=E at *
 refine Qd rfl rfl (V2 c hs.1 c.next c.dur a.num A _ E e0 (k00 ha)) rfl ?_;rintro r V ⟨hv,⟨k',a',zy,zz,rfl⟩|⟨y0,rfl⟩⟩
 rotate_left
 ·exact absurd rfl (y0 a (zE ha))
 obtain rfl:=zj k' a' zy zz;have v0:=hv _ _ e0;have v1:=hv _ _ e1;have v2:=hv _ _ e2;have v7:=hv _ _ e7;have v8:=hv _ _ e8;have vN:=hv _ _ eN;clear e0 e1 e2 e7 e8 eN y1 y2 r7 r8 hY hv;have z8:((c.atts.map encAt).set k' (Y5 a O B))[k']?=some (Y5 a O B):=zJ (by simpa using zq);obtain⟨rows,za⟩:∃rows,(c.atts.map encAt).set k' (Y5 a O B)=rows:=⟨_,rfl⟩
 rw[za]at v0 z8;have zb:k'<rows.length:=(zD.1 z8).1;have zc:∀q,rows[k']'q=Y5 a O B:=λq=>(yR q).2 z8;have zv:¬((w:Int)<0):=by omega
 have zk:¬((a.hv.length:Int)<=w):=by omega
 cases k' with
 |zero=>
  simp only[pvE];simp;repeat(refine s_ ?_;simp)
  refine Qh rfl ?_;simp;repeat(refine s_ ?_;simp[v0,z8,zb,zc,Y5,zv,zk])
  refine Qh rfl ?_;simp;repeat(refine s_ ?_;simp[v0,z8,zb,zc,Y5,v8,zg,zi])
  refine Qh rfl ?_;simp;repeat(refine s_ ?_;simp[v0,z8,zc,Y5,v8,zg,zi,zb])
  refine Qh rfl ?_;simp;repeat(refine s_ ?_;simp[v0,z8,zb,zc,Y5,v8,zg,zi])
  refine Qo (sl':=[(2,.i w),(7,.vptr 1 0),(8,.vptr 2 0),(11,.vptr Y.length 0),(12,.ept A 4 (0) 0)]) ?_ (by simp);refine Q1 λZ hZ=>?_;have zA:Z[A]?=some (.va 93 4 rows):=by rw[hZ];exact Qa r5 v0 _
  have zO:Z[O]?=some (.arr 58 2 (a.ops.map avOpr)):=by rw[hZ];exact Qa (λe=>r6 e.symm) v7 _
  have zB:Z[B]?=some (.arr 4 1 ((a.hv.set w true).map AV.bool)):=by rw[hZ,Qe v8,xw]
  have z1:Z[1]?=some (.vars [.list (ms.map encI),.list []]):=by rw[hZ];exact Qa (by omega) v1 _
  have z2:Z[2]?=some (.vars [.i 0,.nils,.i 0]):=by rw[hZ];exact Qa (by omega) v2 _
  have zN:Z[Y.length]?=some (.vars [.i c.next,.sl A 4 0 c.atts.length,.i c.dur]):=by rw[hZ];exact Qa (by omega) vN _
  clear hZ v0 v7 v8 v1 v2 vN;clear V;have zl:(a.ops.map avOpr)[w]?=some (avOpr a.ops[w]):=by simp[zf]
  have zr:∀q,(a.ops.map avOpr)[w]'q=avOpr a.ops[w]:=λq=>(yR q).2 zl;have zt:(a.ops.map avOpr).set w (.agg [.list (ms.map encI),.list []])=(a.ops.set w ⟨ms,[]⟩).map avOpr:=by rw[xw];simp
  refine Wh tOk mixed [13] (.val 0 (.val 1 (.val 2 (.val 3 (.val 4 (.val 5 (.val 6 (.val 8 (.val 9 (.one 7 (.one 10 (.val 11 (.val 12 (.one 13 (.done))))))))))))))) rfl (by kernel_rfl) ?_;simp[z1,zA,z8,zc,Y5,zf,zb];refine pcL (cI) ?_;simp[z1,zA,z8,zc,Y5,zf,zb];refine pcL (cK) ?_;simp[z1,zA,zO,z8,zc,Y5,zf,zl,zr,zt,zb];refine Qo (sl':=[(8,.vptr 2 0),(11,.vptr Y.length 0)]) ?_ (by simp);refine Q1 λV hV=>?_;have zm:0<c.atts.length:=zq;have vO:V[O]?=some (.arr 58 2 ((Pa a w ⟨ms,[]⟩).ops.map avOpr)):=by rw[hV,Qe zO,Pa,xw];rfl
  have vB:V[B]?=some (.arr 4 1 ((Pa a w ⟨ms,[]⟩).hv.map AV.bool)):=by rw[hV];exact Qa r6 zB _
  have vA:V[A]?=some (.va 93 4 ((c.atts.take (0)).map encAt++Y5 (Pa a w ⟨ms,[]⟩) O B::(c.atts.drop (0+1)).map encAt)):=by rw[hV,Qa r4 zA _,<-za,L5 _ _ _ zm,Bp]
  have v2:V[2]?=some (.vars [.i 0,.nils,.i 0]):=by rw[hV];exact Qa (by omega) z2 _
  have vN:V[Y.length]?=some (.vars [.i c.next,.sl A 4 0 c.atts.length,.i c.dur]):=by rw[hV];exact Qa (by omega) zN _
  clear hV zA zO zB z1 z2 zN;have zh:w0b c (0) w ⟨ms,[]⟩=⟨c.next,c.atts.take (0)++Pa a w ⟨ms,[]⟩::c.atts.drop (0+1),c.dur⟩:=by rw[w0b,ha];simp only;rw[Gm _ _ _ zm]
  rw[zh];refine Im (by simp) A O B Y.length (Pa a w ⟨ms,[]⟩) (c.atts.take (0)) (c.atts.drop (0+1)) c.next c.dur c.atts.length (by simp;omega) vA vO vB vN r6 λZ' x1 x2=>?_;have x3:=x2 2 _ v2 (by omega) (by omega) (by omega) (by omega);have x4:=Qe x3 (.vars [.i c.next,.list ((c.atts.take (0)++Pa a w ⟨ms,[]⟩::c.atts.drop (0+1)).map encAt),.i c.dur]);generalize c.atts.take (0)++Pa a w ⟨ms,[]⟩::c.atts.drop (0+1)=LL at *
  repeat ((refine s_ ?_;simp[x1,x3,x4]))
 |succ k'=>
  simp only[pvE];have zw:k'<c.atts.length:=by omega
  have y5:=hp _ (zG zw);obtain⟨zo,zp⟩:=zD.1 y5;have zn:rows[k']?=some (encAt c.atts[k']):=by rw[<-za,zI (by omega),zU,zG zw];rfl
  generalize c.atts[k']=b at *
  have zd:k'<rows.length:=by omega
  have ze:∀q,rows[k']'q=encAt b:=λq=>(yR q).2 zn;simp;repeat(refine s_ ?_;simp)
  refine Qh rfl ?_;simp;repeat(refine s_ ?_;simp[v0,z8,zb,zc,Y5,zv,zk])
  refine Qh rfl ?_;simp;repeat(refine s_ ?_;simp[v0,z8,zb,zc,Y5,v8,zg,zi])
  refine Qh rfl ?_;simp;repeat(refine s_ ?_;simp[v0,z8,zc,Y5,v8,zg,zi,zb,zn,zd,ze,zo,zp])
  refine Qh rfl ?_;simp;repeat(refine s_ ?_;simp[v0,z8,zb,zc,Y5,v8,zg,zi])
  refine Qo (sl':=[(2,.i w),(7,.vptr 1 0),(8,.vptr 2 0),(11,.vptr Y.length 0),(12,.ept A 4 (k'+1) 0)]) ?_ (by simp);refine Q1 λZ hZ=>?_;have zA:Z[A]?=some (.va 93 4 rows):=by rw[hZ];exact Qa r5 v0 _
  have zO:Z[O]?=some (.arr 58 2 (a.ops.map avOpr)):=by rw[hZ];exact Qa (λe=>r6 e.symm) v7 _
  have zB:Z[B]?=some (.arr 4 1 ((a.hv.set w true).map AV.bool)):=by rw[hZ,Qe v8,xw]
  have z1:Z[1]?=some (.vars [.list (ms.map encI),.list []]):=by rw[hZ];exact Qa (by omega) v1 _
  have z2:Z[2]?=some (.vars [.i 0,.nils,.i 0]):=by rw[hZ];exact Qa (by omega) v2 _
  have zN:Z[Y.length]?=some (.vars [.i c.next,.sl A 4 0 c.atts.length,.i c.dur]):=by rw[hZ];exact Qa (by omega) vN _
  clear hZ v0 v7 v8 v1 v2 vN;clear V;have zl:(a.ops.map avOpr)[w]?=some (avOpr a.ops[w]):=by simp[zf]
  have zr:∀q,(a.ops.map avOpr)[w]'q=avOpr a.ops[w]:=λq=>(yR q).2 zl;have zt:(a.ops.map avOpr).set w (.agg [.list (ms.map encI),.list []])=(a.ops.set w ⟨ms,[]⟩).map avOpr:=by rw[xw];simp
  refine Wh tOk mixed [13] (.val 0 (.val 1 (.val 2 (.val 3 (.val 4 (.val 5 (.val 6 (.val 8 (.val 9 (.one 7 (.one 10 (.val 11 (.val 12 (.one 13 (.done))))))))))))))) rfl (by kernel_rfl) ?_;simp[z1,zA,z8,zc,Y5,zf,zb,zn,zd,ze,zo,zp];refine pcL (cI) ?_;simp[z1,zA,z8,zc,Y5,zf,zb,zn,zd,ze,zo,zp];refine pcL (cK) ?_;simp[z1,zA,zO,z8,zc,Y5,zf,zl,zr,zt,zb,zn,zd,ze,zo,zp];refine Qo (sl':=[(8,.vptr 2 0),(11,.vptr Y.length 0)]) ?_ (by simp);refine Q1 λV hV=>?_;have zm:k'+1<c.atts.length:=zq;have vO:V[O]?=some (.arr 58 2 ((Pa a w ⟨ms,[]⟩).ops.map avOpr)):=by rw[hV,Qe zO,Pa,xw];rfl
  have vB:V[B]?=some (.arr 4 1 ((Pa a w ⟨ms,[]⟩).hv.map AV.bool)):=by rw[hV];exact Qa r6 zB _
  have vA:V[A]?=some (.va 93 4 ((c.atts.take (k'+1)).map encAt++Y5 (Pa a w ⟨ms,[]⟩) O B::(c.atts.drop (k'+1+1)).map encAt)):=by rw[hV,Qa r4 zA _,<-za,L5 _ _ _ zm,Bp]
  have v2:V[2]?=some (.vars [.i 0,.nils,.i 0]):=by rw[hV];exact Qa (by omega) z2 _
  have vN:V[Y.length]?=some (.vars [.i c.next,.sl A 4 0 c.atts.length,.i c.dur]):=by rw[hV];exact Qa (by omega) zN _
  clear hV zA zO zB z1 z2 zN;have zh:w0b c (k'+1) w ⟨ms,[]⟩=⟨c.next,c.atts.take (k'+1)++Pa a w ⟨ms,[]⟩::c.atts.drop (k'+1+1),c.dur⟩:=by rw[w0b,ha];simp only;rw[Gm _ _ _ zm]
  rw[zh];refine Im (by simp) A O B Y.length (Pa a w ⟨ms,[]⟩) (c.atts.take (k'+1)) (c.atts.drop (k'+1+1)) c.next c.dur c.atts.length (by simp;omega) vA vO vB vN r6 λZ' x1 x2=>?_;have x3:=x2 2 _ v2 (by omega) (by omega) (by omega) (by omega);have x4:=Qe x3 (.vars [.i c.next,.list ((c.atts.take (k'+1)++Pa a w ⟨ms,[]⟩::c.atts.drop (k'+1+1)).map encAt),.i c.dur]);generalize c.atts.take (k'+1)++Pa a w ⟨ms,[]⟩::c.atts.drop (k'+1+1)=LL at *
  repeat(refine s_ ?_;simp[x1,x3,x4])
end
section
open Go Go.Proofs
def K5{R W:Nat}{c:Crd}(h:WfC R W c){a:Att}(ha:c.atts[0]?=some a)(hf:false∉a.hv):PC prog 19 [encCr c,.i a.num] (λr=>r= .tup [encCr (v0k c a.num),.i 0]):=by
 refine pcB func19 results19 ntmps19 ?_;simp only[Qf];have cC:=Ug h;have cF:=f0c c (by have:=h.len;omega) a.num;have hs:=h.short;have hA:=hs.2 a (zE ha);have cK:=Fp a hA.2.2;have hW:=λH=>Jg c h.short c.atts.length H;have z8:∀(k:Nat) (b:Att),c.atts[k]?=some b->b.num=a.num->k=0:=λk b hb hn=>by
  cases k with
  |zero=>rfl
  |succ k=>have:=h.asc (Nat.succ_pos k) ha hb;omega
 simp only[encCr,encAt]at cC cF cK hW |-;repeat(refine s_ ?_;simp)
 refine pcL (cC) ?_;simp;repeat(refine s_ ?_;simp)
 refine Qh rfl ?_;simp;repeat(refine s_ ?_;simp)
 refine Ui rfl rfl (by simp) cF rfl ?_;rintro r (⟨k,b,hb,hn,rfl⟩|⟨zd,_⟩)
 rotate_left
 ·exact absurd rfl (zd a (zE ha))
 obtain rfl:=z8 k b hb hn;rw[ha]at hb;obtain rfl:=Option.some.inj hb;simp[U4,pvP,cAt];repeat(refine s_ ?_;simp)
 refine Qh rfl ?_;simp;repeat(refine s_ ?_;simp)
 refine Qh rfl ?_;simp;repeat(refine s_ ?_;simp)
 refine pcL (cK) ?_;simp;repeat(refine s_ ?_;simp)
 refine Qb rfl (λh=>by simp[hf]at h) (λ_=>?_);repeat(refine s_ ?_;simp)
 refine Qd rfl rfl (hW _) rfl ?_;rintro r Y ⟨hx,A,O,B,rows,rfl,hA,hY,hR⟩;have za:=hR.1 (zR _);subst za;have y0:=hx 0 _ rfl;have y1:=hx 1 _ rfl;have zi:=Ql hY;simp at hA;clear hx hR;simp;repeat(refine s_ ?_;simp)
 refine Q1 λE hE=>?_;have e1:E[1]?=some (.vars [.i 0,.nils,.i 0]):=by rw[hE];exact Qc y1 _
 have e2:E[Y.length]?=some (.vars [.i c.next,.sl A 4 0 c.atts.length,.i c.dur]):=by rw[hE];simp
 have eA:E[A]?=some (.va 93 4 (c.atts.map encAt)):=by rw[hE];exact Qc hY _
 have zj:E.length=Y.length+1:=by rw[hE];simp
 clear hE;have ze:(1:Int)<=c.atts.length:=by have:=(zD.1 ha).1;omega
 have zf:1<=c.atts.length:=by omega
 have e3:=Qe e2 (.vars [.i c.next,.sl A 4 0 c.atts.length,.i a.num]);refine Wh tOk mixed [5,7] (.val 0 (.val 1 (.val 2 (.val 3 (.val 4 (.one 5 (.val 6 (.one 7 (.done))))))))) rfl (by kernel_rfl) ?_;simp[e2,e3,ze,zf];refine Qo (sl':=[(4,.vptr 1 0),(9,.vptr Y.length 0)]) ?_ (by simp);refine Q1 λZ hZ=>?_;have z1:Z[1]?=some (.vars [.i 0,.nils,.i 0]):=by rw[hZ];simp[zW,e1];omega
 have zN:Z[Y.length]?=some (.vars [.i c.next,.sl A 4 1 (c.atts.length - 1),.i a.num]):=by rw[hZ];simp[zW];omega
 have zA:Z[A]?=some (.va 93 4 (c.atts.map encAt)):=by rw[hZ];exact Qa (by omega) eA _
 clear hZ;refine Il A zA (K4 _) ?_;have q1:=Qe zA (.arr 93 4 (c.atts.map encAt));have q2:=Qa (j:=A) (by omega) zN (.arr 93 4 (c.atts.map encAt));have q3:=Qa (j:=A) (by omega) z1 (.arr 93 4 (c.atts.map encAt));refine Ey A q1 Y.length q2 ?_;have zg:xJ (c.atts.length - 1) (xS 1 (c.atts.map encAt))=(c.atts.drop 1).map encAt:=by rw[zY (by simp),uE]
 have zk:1+(c.atts.length - 1)=c.atts.length:=by omega
 obtain⟨LL,zc⟩:∃LL,(v0k c a.num).atts.map encAt=LL:=⟨_,rfl⟩
 have zb:(c.atts.drop 1).map encAt=LL:=zc;have p1:=Qe (Qa (j:=A) (by omega) q2 .dead) (.vars [.i c.next,.list LL,.i a.num]);have p2:=Qa (j:=Y.length) (by omega) (Qa (j:=A) (by omega) q3 .dead) (.vars [.i c.next,.list LL,.i a.num]);have zh:(.vars [(AV.i c.next).fz A 4 (c.atts.map encAt),(AV.sl A 4 1 (c.atts.length - 1)).fz A 4 (c.atts.map encAt),(AV.i a.num).fz A 4 (c.atts.map encAt)]:AObj)= .vars [.i c.next,.list LL,.i a.num]:=by simp only[Tv,Od];rw[if_pos ⟨trivial,trivial,by simp;omega⟩,zg,zb]
 simp only[z_,yM,zh,Uv];generalize ((Z.set A (.arr 93 4 (c.atts.map encAt))).set A .dead).set Y.length (.vars [.i c.next,.list LL,.i a.num])=V at *
 have p3:=Qe p2 (.vars [.i c.next,.list LL,.i a.num]);rw[zc];repeat(refine s_ ?_;simp[p1,p2,p3])
 exact⟨rfl,rfl⟩
end
section
open Go Go.Proofs
attribute [simp] q08 T37 T39 T45 T23
structure File where
 name:List UInt8
 dur:List UInt8
 vol:List UInt8
deriving Inhabited,DecidableEq
structure Disk where
 files:List File
 space:Int
deriving Inhabited,DecidableEq
@[simp] def encFl (f:File):AV:= .agg [.str f.name,.str f.dur,.str f.vol]
@[simp] def encD (d:Disk):AV:= .agg [.list (d.files.map encFl),.int .i64 d.space]
def Aw(fs:List File):Nat:=(fs.map (·.vol.length)).sum
def A0(fs:List File):Nat:=(fs.map (·.dur.length)).sum
def Jp(a b:Int):IntKind.i64.wrap (IntKind.i64.wrap a+b)=IntKind.i64.wrap (a+b):=by rw[IntKind.wrap_i64,IntKind.wrap_i64,IntKind.wrap_i64];omega
def wrap_zero:IntKind.i64.wrap 0=0:=by rw[IntKind.wrap_i64];omega
def Pp(fs:List File)(g:File->Nat)(j:Nat)(h:j<fs.length):((fs.take (j+1)).map g).sum=((fs.take j).map g).sum+g fs[j]:=by rw[yI h,xG,vn];simp only[z_,yM,xH,uG,wy]
def y0g(fs:List File)(j:Nat)(h:j<fs.length):Aw (fs.take (j+1))=Aw (fs.take j)+fs[j].vol.length:=Pp fs _ j h
def w0d(fs:List File)(j:Nat)(h:j<fs.length):A0 (fs.take (j+1))=A0 (fs.take j)+fs[j].dur.length:=Pp fs _ j h
def Lx(fs:List File):PC prog 74 [.list (fs.map encFl)] (λr=>r= .tup [.i (W (Aw fs)),.i (W (A0 fs))]):=by
 refine pcB func74 results74 ntmps74 ?_;simp only[Qf];refine Jx 0 rfl (λhlen=>?_);rw[xp]at hlen;repeat(refine s_ ?_;simp)
 refine Ib fs.length (λj=>[(0,.list (fs.map encFl)),(4,.i (W (Aw (fs.take j)))),(5,.i (W (A0 (fs.take j)))),(8,.list (fs.map encFl)),(9,.i fs.length),(10,.i j)]) (λ_=>[]) rfl (by simp) (by simp[Aw,A0,wrap_zero]) (by simp) (by simp) ?_;intro j hj ih;repeat(refine s_ ?_;simp)
 refine Qb rfl (λza=>?_) (λzb=>?_)
 ·have z1:j<fs.length:=by simpa using za
  repeat(refine s_ ?_;simp[z1])
  refine Q8 _ (ih z1) rfl (by simp) ?_ (by simp) (by simp);simp[Jp,y0g fs j z1,w0d fs j z1];exact wrap_i64 _ (by omega) (by omega)
 have z8:j=fs.length:=by simp at zb;omega
 subst z8;repeat(refine s_ ?_;simp)
end
section
open Go Go.Proofs
def Yw(n:Int):Bool:=decide (97<=n) && decide (n<=122) || decide (65<=n) && decide (n<=90) || decide (48<=n) && decide (n<=57) || n==95 || n==46 || n==45
def E3(s:List UInt8):Bool:=s.all (λc=>Yw c.toNat) && (decide (1<=(s.length:Int)) && decide ((s.length:Int)<=48))
def Jl{α:Type}(s:List α)(p:α->Bool)(j:Nat)(h:j<s.length):(s.take (j+1)).all p=((s.take j).all p && p s[j]):=by rw[yI h];simp only[vE,wg,uH,Bool.and_true]
def Km{α:Type}(s:List α)(p:α->Bool)(j:Nat)(h:j<s.length)(hp:p s[j]=false):s.all p=false:=by rw[List.all_eq_false];exact⟨s[j],yB h,by simp[hp]⟩
end
section
open Go Go.Proofs
def few(d:Disk):Bool:=decide ((d.files.length:Int)<=300) && decide (W (Aw d.files)<=2000) && decide (W (A0 d.files)<=2000)
def Y6(a b:List UInt8):Bool:=Op.bytesLess a b || a==b
def An(p:Option (List UInt8))(n:List UInt8):Bool:=match p with
 |none=>false
 |some q=>Y6 n q
def Bn:Option (List UInt8)->List File->Int
 |_,[]=>0
 |p,f::r=>if E3 f.name=false then 8 else if An p f.name=true then 14 else Bn (some f.name) r
def C4(fs:List File):Nat->Option (List UInt8)
 |0=>none
 |j+1=>fs[j]?.map (·.name)
def Xm{fs:List File}{j:Nat}(h:j<fs.length):fs.drop j=fs[j]::fs.drop (j+1):=yU h
def Ah{fs:List File}{j:Nat}(h:j<fs.length):C4 fs (j+1)=some fs[j].name:=by simp[C4,h]
def Ff(d:Disk):Bool:=decide (d.space<W (Aw d.files)) || decide (d.space<W (A0 d.files))
def Zl(n:Int):Bool:=decide (n<0) || decide (65536<n)
def Wc(d:Disk):Int:=if Zl d.space=true then 2 else if(256:Int)<d.files.length then 5 else
 if Bn none d.files=0 then(if Ff d=true then 27 else 0)else Bn none d.files
end
section
open Go Go.Proofs
def Tu(d:Disk)(s:List UInt8):Int:=if Wc d=0 then(if E3 s=true then 0 else 8)else Wc d
def findF:List File->List UInt8->Nat->Option Nat
 |[],_,_=>none
 |f::r,s,i=>if f.name=s then some i else findF r s (i+1)
def Mb(fs:List File)(s:List UInt8)(i:Nat):∀r,findF fs s i=some r->i<=r/\r<i+fs.length:=by
 induction fs generalizing i with
 |nil=>intro r h;cases h
 |cons f fs ih=>
  intro r h;rw[findF]at h;split at h
  ·cases h;simp
  have:=ih _ _ h;simp;omega
def Z8:Option Nat->AV
 |none=> .tup [.i 0,.bool false]
 |some i=> .tup [.i i,.bool true]
def Kj(d:Disk)(s:List UInt8):File:=match findF d.files s 0 with
 |none=>⟨s,[],[]⟩
 |some i=>d.files[i]?.getD ⟨s,[],[]⟩
def W7:Disk:=⟨[],0⟩
def Lv(d:Disk):Disk×Int:=if(256:Int)<d.files.length then(W7,5)else if Ff d=true then(W7,27)else(d,0)
end
section
open Go Go.Proofs
def Wv(d:Disk)(s:List UInt8):Disk:=⟨d.files.filter (λf=>f.name != s),d.space⟩
def Sl{α:Type}(l:List α)(p:α->Bool)(j:Nat)(h:j<l.length):(l.take (j+1)).filter p=(l.take j).filter p++(if p l[j]=true then [l[j]]else []):=by rw[yI h,vf];simp[wu]
def Tl(f:File)(st:Bool×List File)(g:File):Bool×List File:=
 let st1:=if(!st.1 && Y6 f.name g.name)=true then(true,st.2++[f])else st
 if(g.name != f.name)=true then(st1.1,st1.2++[g])else st1
def Cf(f:File)(fs:List File):Bool×List File:=fs.foldl (Tl f) (false,[])
def q1a(d:Disk)(f:File):Disk:=⟨if(Cf f d.files).1=true then(Cf f d.files).2 else(Cf f d.files).2++[f],d.space⟩
end
section
open Go Go.Proofs
def T7{d:Disk}(h:Wc d=0):d.files.length<=256:=by
 unfold Wc at h;split at h
 ·cases h
 split at h
 ·cases h
 omega
def Ys{d:Disk}{s:List UInt8}(h:Tu d s=0):Wc d=0:=by
 unfold Tu at h;split at h
 ·assumption
 exact h
def B0{fs:List File}{s:List UInt8}{i:Nat}(h:findF fs s 0=some i):i<fs.length:=by have:=(Mb fs s 0 i h).2;omega
def v06(d:Disk)(s:List UInt8):Disk×Int:=if Tu d s=0 then(match findF d.files s 0 with
 |none=>(W7,6)
 |some i=>Lv (q1a d { d.files[i]! with dur:=d.files[i]!.vol }))else(W7,Tu d s)
def Jf(d:Disk)(s t:List UInt8):Disk×Int:=if Tu d s=0 then(if E3 t=true then(match findF d.files s 0 with
 |none=>(W7,6)
 |some i=>(q1a (Wv d s) { d.files[i]! with name:=t },0))else(W7,8))else(W7,Tu d s)
end
section
open Go Go.Proofs
def Xt{α:Type}{a b:List α}{j:Nat}(ha:j<a.length)(hb:j<b.length)(h:a.take j=b.take j)(he:a[j]=b[j]):a.take (j+1)=b.take (j+1):=by rw[yI ha,yI hb,h,he]
def Qj{α β:Type}(l:List α)(f:α->β):xJ l.length (l.map f)=l.map f:=zY (by simp)
def q1e(c n:Int):Int:=if c.tmod n<0 then W (c.tmod n+n)else c.tmod n
def Tf(cs:List Int)(n:Int):Int×List Int:=match cs with
 |[]=>(0,[])
 |c::r=>(q1e c n,r)
def d0i(c n:Int)(hn:0<n)(hb:n<=9223372036854775807):0<=q1e c n/\q1e c n<n:=by
 unfold q1e;have h1:=Int.tmod_lt_of_pos c hn;have h2: - n<c.tmod n:=by exact Int.lt_tmod_of_pos c hn
 split
 ·rw[W,wrap_i64 _ (by omega) (by omega)];omega
 omega
def Es(f:File)(cs:List Int):List UInt8×List Int:=
 if f.dur=f.vol then(f.dur,cs)else
 let p:=Tf cs 3
 if p.1=0 then(f.dur,p.2)else if p.1=1 then(f.vol,p.2)else if f.vol=[]then([],p.2)else
 let q:=Tf p.2 f.vol.length
 (f.vol.take q.1.toNat,q.2)
def Et(st:List File×List Int)(f:File):List File×List Int:=(st.1++[⟨f.name,(Es f st.2).1,(Es f st.2).1⟩],(Es f st.2).2)
def W3(fs:List File)(cs:List Int):List File×List Int:=fs.foldl Et ([],cs)
def Cm(fs:List File)(cs:List Int)(j:Nat)(h:j<fs.length):W3 (fs.take (j+1)) cs=Et (W3 (fs.take j) cs) fs[j]:=by rw[W3,yI h,uc];rfl
def Iv(fs:List File)(cs:List Int):(W3 fs cs).1.length=fs.length:=by
 have key:∀(l:List File) (st:List File×List Int),(l.foldl Et st).1.length=st.1.length+l.length:=by
  intro l;induction l with
  |nil=>intro st;simp
  |cons g l ih=>intro st;rw[xK,ih];simp[Et];omega
 have:=key fs ([],cs);simpa[W3]using this
def VB(fs:List File):Prop:=∀f∈fs,f.vol.length<=9223372036854775807
def R2(d:Disk)(cs:List Int):Disk×List Int×Int:=if Wc d=0 then
 let p:=W3 d.files cs
 let q:=Lv ⟨p.1,d.space⟩
 if q.2=0 then(q.1,p.2,0)else(W7,[],q.2)
 else(W7,[],Wc d)
end
section
open Go Go.Proofs
section
def Q4(p:Nat->Bool):List AV:=(xV 256).map (λi=> .bool (p i))
def zAs:Value:=match look T 222 with
 |some i=>i.zero
 |none=> .bool false
def k12:look T 222=some { desc:= .array 256 4,zero:=zAs,size:=256,bytes:=256,eqv:=true }:=rfl
def L7:zAs.cells.toList.map zeroCell=Q4 (λ_=>false):=by kernel_rfl
def Nn:List.map zeroCell (match zAs with|Value.agg cs=>cs|v=> #[v]).toList=Q4 (λ_=>false):=L7
@[simp] theorem boolTab_len (p:Nat->Bool):(Q4 p).length=256:=by simp[Q4]
@[simp] theorem boolTab_take (p:Nat->Bool):(Q4 p).take 256=Q4 p:=zY (by simp)
def Dg(p:Nat->Bool)(i:Nat)(h:i<256):(Q4 p)[i]?=some (.bool (p i)):=by simp[Q4,h]
def Xb(p:Nat->Bool)(i:Nat)(h:i<256):(Q4 p).drop i= .bool (p i)::(Q4 p).drop (i+1):=by
 rw[yU (by simpa using h)]
 congr 1
 simp[Q4]
def Cs(p:Nat->Bool)(i:Nat)(h:i<256):(Q4 p).set i (.bool true)=Q4 (λj=>j==i || p j):=by
 refine xk λk=>?_;by_cases hk:k<256
 ·rw[Dg _ _ hk];by_cases hki:i=k
  ·subst hki;rw[zJ (by simpa using h)];simp
  rw[zI hki,Dg _ _ hk];simp[show k≠i from λe=>hki e.symm]
 rw[wb (by simp;omega),wb (by simp;omega)]
@[simp] theorem boolTab_leaf (p:Nat->Bool):(Q4 p).all AV.leaf=true:=by simp[Q4,AV.leaf]
@[simp] theorem boolTab_leaf' (p:Nat->Bool):(∀x,x∈Q4 p->x.leaf=true)↔True:=by have:=boolTab_leaf p;rw[zV]at this;simp only[iff_true];exact this
@[simp] theorem boolTab_pure (p:Nat->Bool):(Q4 p).all AV.pure=true:=by simp[Q4,AV.pure]
@[simp] theorem boolTab_flat (p:Nat->Bool):(Q4 p).all AV.flat=true:=by simp[Q4,AV.flat]
@[simp] theorem boolTab_under (p:Nat->Bool) (n:Nat):(Q4 p).all (AV.under n)=true:=by simp[Q4,AV.under]
def Lp(ds xs ys zs:List AV)(h:ys.length=xs.length):setCells (ds++ys++zs) ds.length xs=ds++xs++zs:=by
 induction xs generalizing ds ys with
 |nil=>simp at h;subst h;simp[setCells]
 |cons x xs ih=>
  rcases ys with _|⟨y,ys⟩
  ·simp at h
  rw[setCells];have:=ih (ds++[x]) ys (by simpa using h);simp at this |-;exact this
@[simp] theorem boolTab_setCells (p q:Nat->Bool):setCells (Q4 p) 0 (Q4 q)=Q4 q:=by
 have:=Lp [] (Q4 q) (Q4 p) [] (by simp)
 simpa using this
def A8{α β:Type}(f:α->Option β)(g:α->β)(l:List α)(h:∀x∈l,f x=some (g x)):Qy (l.map f)=some (l.map g):=by
 induction l with
 |nil=>rfl
 |cons x l ih=>rw[z_,h x (by simp),Qy,ih (λy hy=>h y (by simp[hy]))];rfl
@[simp] theorem boolTab_snap0 (H:List AObj) (p:Nat->Bool):Qy ((Q4 p).map (Q7 H))=some (Q4 p):=by
 rw[A8 (Q7 H) id _ (λx hx=>?_)]
 ·simp
 obtain⟨i,_,rfl⟩:=xg.1 hx;simp
@[simp] theorem boolTab_snap1 (H:List AObj) (p:Nat->Bool):Qy ((Q4 p).map (Wn H))=some (Q4 p):=by
 rw[A8 (Wn H) id _ (λx hx=>?_)]
 ·simp
 obtain⟨i,_,rfl⟩:=xg.1 hx;simp
attribute [simp] k12 L7 Nn
attribute [irreducible] zAs Q4
def U6(p:Nat->Bool)(c:Nat)(hc:c<256):PC prog 177 [.iptr (Q4 p),.int .u8 c] (λr=>r= .bool (p c)):=by
 refine pcB func177 results177 ntmps177 ?_;simp only[Qf];have z1:(c:Int)<256:=by omega
 repeat(refine s_ ?_;simp[z1,Xb p c hc])
def setOf(cs:List UInt8)(i:Nat):Bool:=cs.any (λc=>c.toNat==i)
def Nq(cs:List UInt8)(j:Nat)(h:j<cs.length):setOf (cs.take (j+1))=λi=>(i==cs[j].toNat || setOf (cs.take j) i):=by
 funext i;rw[setOf,yI h,List.any_append,setOf];simp only[List.any_cons,List.any_nil,Bool.or_false];rw[Bool.or_comm]
 congr 1
 rw[Bool.beq_comm]
def Dr(cs:List UInt8)(za:∀c∈cs,c.toNat<128)(hlen:cs.length<=1000000):PC prog 135 [.str cs] (λr=>r= .tup [.agg (Q4 (setOf cs)),.bool true]):=by
 refine pcB func135 results135 ntmps135 ?_;simp only[Qf];repeat(refine s_ ?_;simp[-Value.cells])
 refine Ib cs.length (λj=>[(0,.str cs),(2,.vptr 0 0),(4,.i j)]) (λj=>[.vars (Q4 (setOf (cs.take j)))]) rfl (by simp) (by simp[setOf]) (by simp) (by simp) ?_;intro j hj ih;repeat(refine s_ ?_;simp)
 refine Qb rfl (λzb=>?_) (λzc=>?_)
 ·have z1:j<cs.length:=by simpa using zb
  have zd:=za cs[j] (yB z1);repeat(refine s_ ?_;simp[z1])
  refine Qh (b:=false) ?_ ?_
  ·simp;omega
  have h1:(cs[j].toNat:Int)<256:=by omega
  have h2:cs[j].toNat<=255:=by omega
  repeat(refine s_ ?_;simp[z1,h1,h2,Cs (setOf (cs.take j)) cs[j].toNat (by omega)])
  refine Q8 [] (ih z1) ?_ (by simp) ?_ (by simp) (by simp)
  ·rw[Nq cs j z1];simp
  simp;exact wrap_i64 _ (by omega) (by omega)
 have z8:j=cs.length:=by simp at zc;omega
 subst z8;repeat(refine s_ ?_;simp)
def Fc(p:UInt8->Bool)(s:List UInt8):List UInt8:=(s.reverse.dropWhile p).reverse
def w0t(p:UInt8->Bool)(s:List UInt8)(c:UInt8):Fc p (s++[c])=if p c=true then Fc p s else s++[c]:=by simp only[Fc,List.reverse_append,List.reverse_cons,List.reverse_nil,wo,xX,xI];split<;>simp
def Aq(p:Nat->Bool)(s:List UInt8)(hlen:s.length<=1000000):PC prog 137 [.str s,.iptr (Q4 p)] (λr=>r= .str (Fc (λc=>p c.toNat) s)):=by
 refine pcB func137 results137 ntmps137 ?_;simp only[Qf];repeat(refine s_ ?_;simp)
 refine Qk (Qg (sl':=[(0,.str s),(1,.iptr (Q4 p))]) ?_ (by simp));refine Qp (F:=λu=>⟨[(0,.str u),(1,.iptr (Q4 p))],[]⟩) (λu=>u.length<=s.length/\Fc (λc=>p c.toNat) u=Fc (λc=>p c.toNat) s) (λu=>u.length) ?_ s ⟨zR _,rfl⟩;rintro u ⟨hu,hr⟩ ih;rcases List.eq_nil_or_concat u with rfl|⟨v,c,rfl⟩
 ·repeat(refine s_ ?_;simp)
  refine Qh rfl ?_;repeat(refine s_ ?_;simp)
  rw[<-hr];rfl
 rw[List.concat_eq_append]at *;simp at hu
 have hw:IntKind.i64.wrap (v.length:Int)=v.length:=wrap_i64 _ (by omega) (by omega);rw[w0t]at hr;repeat(refine s_ ?_;simp)
 refine Qh (b:=true) ?_ ?_
 ·simp
 repeat(refine s_ ?_;simp[hw])
 refine pcL (U6 p c.toNat (by have:=c.toNat_lt;omega)) ?_;simp;refine Qb rfl (λh=>?_) (λh=>?_)
 ·repeat(refine s_ ?_;simp)
  simp at h;rw[h]at hr;simpa using hr
 have h0:(v.length:Int)<=v.length+1:=by omega
 repeat(refine s_ ?_;simp[hw,h0])
 simp at h;rw[if_pos h]at hr;refine Q8 [] (ih v ⟨by omega,hr⟩ (by simp)) rfl (by simp) ?_ (by simp) (by simp);simp
def Sr(p:Nat->Bool)(s:List UInt8)(hlen:s.length<=1000000):PC prog 136 [.str s,.iptr (Q4 p)] (λr=>r= .str (s.dropWhile (λc=>p c.toNat))):=by
 refine pcB func136 results136 ntmps136 ?_;simp only[Qf];repeat(refine s_ ?_;simp)
 refine Qk (Qg (sl':=[(0,.str s),(1,.iptr (Q4 p))]) ?_ (by simp));refine Qp (F:=λu=>⟨[(0,.str u),(1,.iptr (Q4 p))],[]⟩) (λu=>u.length<=s.length/\u.dropWhile (λc=>p c.toNat)=s.dropWhile (λc=>p c.toNat)) (λu=>u.length) ?_ s ⟨zR _,rfl⟩;rintro u ⟨hu,hr⟩ ih;rcases u with _|⟨c,v⟩
 ·repeat(refine s_ ?_;simp)
  refine Qh rfl ?_;repeat(refine s_ ?_;simp)
  rw[<-hr];rfl
 simp at hu;rw[xI]at hr;repeat(refine s_ ?_;simp)
 refine Qh (b:=true) ?_ ?_
 ·simp
 repeat(refine s_ ?_;simp)
 refine pcL (U6 p c.toNat (by have:=c.toNat_lt;omega)) ?_;simp;refine Qb rfl (λh=>?_) (λh=>?_)
 ·repeat(refine s_ ?_;simp)
  simp at h;rw[h]at hr;simpa using hr
 have h0:(1:Int)<=v.length+1:=by omega
 repeat(refine s_ ?_;simp[h0])
 simp at h;rw[if_pos h]at hr;refine Q8 [] (ih v ⟨by omega,hr⟩ (by simp)) rfl (by simp) ?_ (by simp) (by simp);simp
def M5(cs s:List UInt8):List UInt8:=(Fc (λc=>setOf cs c.toNat) s).dropWhile (λc=>setOf cs c.toNat)
def w0o(p:UInt8->Bool)(s:List UInt8):(Fc p s).length<=s.length:=by simp only[Fc,List.length_reverse];have:=(vJ p (l:=s.reverse)).length_le;simpa using this
def d0m(cs s:List UInt8)(z8:∀c∈cs,c.toNat<128)(hlen:cs.length<=1000000)(h2:2<=cs.length)(hs:s.length<=1000000)(za:s≠[]):PC prog 108 [.str s,.str cs] (λr=>r= .str (M5 cs s)):=by
 refine pcB func108 results108 ntmps108 ?_;simp only[Qf];repeat(refine s_ ?_;simp)
 rcases cs with _|⟨a,_|⟨b,r⟩⟩
 ·simp at h2
 ·simp at h2
 generalize z1:a::b::r=cs at *
 have zb:cs≠[]:=by rw[<-z1];simp
 refine Qh (b:=false) (by simp[za,zb]) ?_;have zc:((cs.length:Int)==1)=false:=by simp;omega
 have hg:cs[0]?=some a:=by rw[<-z1];rfl
 repeat(refine s_ ?_;simp[zc,hg])
 refine Qh rfl ?_;repeat(refine s_ ?_;simp[-Value.cells,-AV.leaf])
 refine pcL (Dr cs z8 hlen) ?_;simp[-Value.cells,-AV.leaf];repeat(refine s_ ?_;simp[-Value.cells,-AV.leaf])
 refine Qh rfl ?_;repeat(refine s_ ?_;simp)
 refine Wf rfl rfl (by first|(simp;done)|(simp;rfl)) (Aq (setOf cs) s hs) rfl ?_;rintro _ rfl;refine⟨by first|simp|rfl|trivial,?_⟩;simp;refine Wf rfl rfl (by first|(simp;done)|(simp;rfl)) (Sr (setOf cs) _ (yD (w0o _ s) hs)) rfl ?_;rintro _ rfl;refine⟨by first|simp|rfl|trivial,?_⟩;simp;repeat(refine s_ ?_;simp)
 rfl
def q1x{α:Type}(p:α->Bool)(l:List α):l.dropWhile p=[]↔∀x∈l,p x=true:=by
 induction l with
 |nil=>simp
 |cons a l ih=>
  rw[xI];split
  ·rename_i h;rw[ih];simp[h]
  rename_i h;simp[h]
def w12{α:Type}(p:α->Bool)(l:List α)(x:α)(h:x∈l):p x=true\/x∈l.dropWhile p:=by
 induction l with
 |nil=>cases h
 |cons a l ih=>
  rw[xI];split
  ·rename_i ha;rcases y_.1 h with rfl|h
   ·exact .inl ha
   exact ih h
  exact .inr h
def x0n(cs s:List UInt8):(M5 cs s==[])=s.all (λc=>setOf cs c.toNat):=by
 rw[ut];simp only[beq_iff_eq,M5,zV];rw[q1x];constructor
 ·intro h x hx;rcases w12 (λc=>setOf cs c.toNat) s.reverse x (by simpa using hx)with h1|h1
  ·exact h1
  exact h x (by simpa[Fc]using h1)
 intro h x hx;refine h x ?_;have:=(vJ (λc:UInt8=>setOf cs c.toNat) (l:=s.reverse)).subset (by simpa[Fc]using hx);simpa using this
end
end
section
open Go Go.Proofs
def Oq:List UInt8:=[97,98,99,100,101,102,103,104,105,106,107,108,109,110,111,112,113,114,115,116,117,118,119,120,121,122,65,66,67,68,69,70,71,72,73,74,75,76,77,78,79,80,81,82,83,84,85,86,87,88,89,90,48,49,50,51,52,53,54,55,56,57,95,46,45]
def q01:∀n:Fin 256,setOf Oq n.val=Yw n.val:=by decide+kernel
def Vi(c:UInt8):setOf Oq c.toNat=Yw c.toNat:=q01 ⟨c.toNat,c.toNat_lt⟩
def Nl:∀c∈Oq,c.toNat<128:=by decide+kernel
def y1d(s:List UInt8):PC prog 73 [.str s] (λr=>r= .bool (E3 s)):=by
 refine pcB func73 results73 ntmps73 ?_;simp only[Qf];rcases s with _|⟨c,r⟩
 ·repeat(refine s_ ?_;simp)
  refine Wp rfl rfl ?_;simp;repeat(refine s_ ?_;simp)
  rfl
 generalize hs:c::r=s;have z8:s≠[]:=by rw[<-hs];simp
 have z1:s.isEmpty=false:=by rw[<-hs];rfl
 have zb:0<s.length:=vX.2 z8;by_cases hl:s.length<=48
 ·have hl':(s.length:Int)<=48:=by omega
  repeat(refine s_ ?_;simp[z1,hl'])
  refine pcL (d0m Oq s Nl (by decide) (by decide) (by omega) z8) ?_;simp;repeat(refine s_ ?_;simp)
  rw[show(M5 Oq s).isEmpty=(M5 Oq s==[]) by cases M5 Oq s<;>rfl,x0n];simp only[Vi,E3];rw[decide_eq_true hl',decide_eq_true (show(1:Int)<=s.length by omega)];simp
 have hl':¬(s.length:Int)<=48:=by omega
 have za:(48:Int)<s.length:=by omega
 repeat(refine s_ ?_;simp[z1,hl'])
 refine Wp (by simp[z1,za]) rfl ?_;simp[z1,za];repeat(refine s_ ?_;simp)
 simp[E3,hl']
end
section
open Go Go.Proofs
def y0v(d:Disk):PC prog 42 [encD d] (λr=>r= .i (Wc d)):=by
 refine pcB func42 results42 ntmps42 ?_;simp only[Qf];simp only[encD];refine Mi 0 0 rfl rfl (λhlen=>?_);rw[xp]at hlen;repeat(refine s_ ?_;simp)
 refine Qb rfl (λh=>?_) (λh1=>?_)
 ·repeat(refine s_ ?_;simp)
  simp[Wc,Zl,h]
 repeat(refine s_ ?_;simp)
 refine Qb rfl (λh=>?_) (λh2=>?_)
 ·repeat(refine s_ ?_;simp)
  simp only[Wc,Zl,h1];simp at h;simp[h]
 repeat(refine s_ ?_;simp)
 refine E9 d.files.length (λj=>Bn none d.files=Bn (C4 d.files j) (d.files.drop j)) (λj=>[(1,.vptr 0 0),(22,.list (d.files.map encFl)),(23,.i d.files.length),(24,.i j)]) (λ_=>[.vars [.list (d.files.map encFl),.i d.space]]) rfl (by simp) (by simp) (by simp) (by simp) (by simp[C4]) ?_;intro j hj hI ih;repeat(refine s_ ?_;simp)
 refine Qb rfl (λze=>?_) (λzf=>?_)
 ·have z1:j<d.files.length:=by simpa using ze
  rw[Xm z1,Bn]at hI;repeat(refine s_ ?_;simp[z1])
  refine pcL (y1d _) ?_;simp[z1];refine Qb rfl (λzb=>?_) (λzc=>?_)
  ·repeat(refine s_ ?_;simp)
   simp at zb;rw[if_pos zb]at hI;simp at h2;rw[Wc,if_neg (by simp[Zl,h1]),if_neg (by omega),hI];simp
  simp at zc;rw[if_neg (by simp[zc])]at hI;have zg:∀b,An (C4 d.files j) d.files[j].name=b->b=true->(8:Int)+6=Wc d:=λb e1 e2=>by rw[e1,if_pos e2]at hI;simp at h2;rw[Wc,if_neg (by simp[Zl,h1]),if_neg (by omega),hI];simp
  have zd:An (C4 d.files j) d.files[j].name=false->Bn none d.files=Bn (C4 d.files (j+1)) (d.files.drop (j+1)):=λe=>by rw[e,if_neg (by simp)]at hI;rw[Ah z1,hI]
  rcases j with _|j
  ·repeat(refine s_ ?_;simp)
   refine R7 tOk mixed [] [0,1,2,3,4,5,6,7,8,9,10,11,12,13,14] rfl (by kernel_rfl) ?_;simp[z1];refine Qh rfl ?_;repeat(refine s_ ?_;simp)
   refine Q8 _ (ih z1 (zd rfl)) rfl (by simp) ?_ (by simp) (by simp);simp;exact wrap_i64 _ (by omega) (by omega)
  have z8:j<d.files.length:=by omega
  have hw:IntKind.i64.wrap (j:Int)=j:=wrap_i64 _ (by omega) (by omega);have g1:(0:Int)<=(j:Int)+1:=by omega
  have g2:(j:Int)+1<d.files.length:=by omega
  repeat(refine s_ ?_;simp)
  refine R7 tOk mixed [] [0,1,2,3,4,5,6,7,8,9,10,11,12,13,14] rfl (by kernel_rfl) ?_;simp[z1,z8,hw,g1,g2];refine Qb rfl (λhb=>?_) (λhb=>?_)
  ·repeat(refine s_ ?_;simp)
   exact zg _ rfl (by rw[Ah z8];exact hb)
  repeat(refine s_ ?_;simp)
  refine Q8 _ (ih z1 (zd (by rw[Ah z8];exact hb))) rfl (by simp) ?_ (by simp) (by simp);simp;exact wrap_i64 _ (by omega) (by omega)
 have za:j=d.files.length:=by simp at zf;omega
 subst za;repeat(refine s_ ?_;simp)
 refine pcL (Lx _) ?_;simp;repeat(refine s_ ?_;simp)
 rw[uh,Bn]at hI;simp at h2;rw[Wc,if_neg (by simp[Zl,h1]),if_neg (by omega),if_pos hI];refine Qb rfl (λhb=>?_) (λhb=>?_)
 ·repeat(refine s_ ?_;simp)
  rw[Ff,hb]
 repeat(refine s_ ?_;simp)
 rw[Ff,hb]
@[simp] def encS (s:List UInt8):AV:= .str s
def Tc(d:Disk)(ns:List (List UInt8)):Int:=if Wc d=0 then(if ns.all E3=true then 0 else 8)else Wc d
def c0k(d:Disk)(ns:List (List UInt8)):PC prog 104 [encD d,.list (ns.map encS)] (λr=>r= .i (Tc d ns)):=by
 refine pcB func104 results104 ntmps104 ?_;simp only[Qf];simp only[encD];refine Jx 1 rfl (λhlen=>?_);rw[xp]at hlen;repeat(refine s_ ?_;simp)
 refine pcL (y0v d) ?_;simp;repeat(refine s_ ?_;simp)
 refine Qb rfl (λh=>?_) (λh1=>?_)
 ·repeat(refine s_ ?_;simp)
  simp at h;simp[Tc,h]
 simp at h1;repeat(refine s_ ?_;simp)
 refine E9 ns.length (λj=>(ns.take j).all E3=true) (λj=>[(13,.list (ns.map encS)),(14,.i ns.length),(15,.i j)]) (λ_=>[]) rfl (by simp) (by simp) (by simp) (by simp) (by simp) ?_;intro j hj hI ih;repeat(refine s_ ?_;simp)
 refine Qb rfl (λza=>?_) (λzb=>?_)
 ·have z1:j<ns.length:=by simpa using za
  repeat(refine s_ ?_;simp[z1])
  refine pcL (y1d _) ?_;simp;refine Qb rfl (λzc=>?_) (λzd=>?_)
  ·repeat(refine s_ ?_;simp)
   have:=Km ns E3 j z1 (by simpa using zc);simp[Tc,h1,this]
  repeat(refine s_ ?_;simp)
  refine Q8 _ (ih z1 ?_) rfl (by simp) ?_ (by simp) (by simp)
  ·rw[Jl ns _ j z1,hI];simpa using zd
  simp;exact wrap_i64 _ (by omega) (by omega)
 have z8:j=ns.length:=by simp at zb;omega
 subst z8;repeat(refine s_ ?_;simp)
 rw[yV]at hI;simp[Tc,h1,hI]
end
section
open Go Go.Proofs
def y1a(s:List UInt8):PC prog 175 [.str s] (λr=>r= .bool false):=by refine pcB func175 results175 ntmps175 ?_;simp only[Qf];repeat(refine s_ ?_;simp)
def Dh(a b:List UInt8):Int:=if Op.bytesLess a b=true then -1 else if Y6 a b=false then 1 else 0
def u1u(a b:List UInt8):PC prog 130 [.str a,.str b] (λr=>r= .i (Dh a b)):=by
 refine pcB func130 results130 ntmps130 ?_;simp only[Qf];repeat(refine s_ ?_;simp)
 refine pcL (y1a a) ?_;simp;repeat(refine s_ ?_;simp)
 refine pcL (y1a b) ?_;simp;repeat(refine s_ ?_;simp)
 refine Qh rfl ?_;repeat(refine s_ ?_;simp)
 refine Qh rfl ?_;repeat(refine s_ ?_;simp)
 refine Qb rfl (λh=>?_) (λh=>?_)
 ·repeat(refine s_ ?_;simp)
  simp[Dh,h]
 repeat(refine s_ ?_;simp)
 refine Qb rfl (λh2=>?_) (λh2=>?_)
 ·repeat(refine s_ ?_;simp)
  have h3:Y6 a b=false:=by unfold Y6;revert h2;cases Op.bytesLess a b<;>cases(a==b)<;>simp
  simp[Dh,h,h3]
 repeat(refine s_ ?_;simp)
 have h3:Y6 a b=true:=by unfold Y6;revert h2;cases Op.bytesLess a b<;>cases(a==b)<;>simp
 simp[Dh,h,h3]
def y1z(f:File)(s:List UInt8):PC prog 129 [encFl f,.str s] (λr=>r= .i (Dh f.name s)):=by
 refine pcB func129 results129 ntmps129 ?_;simp only[Qf];simp only[encFl];repeat(refine s_ ?_;simp)
 refine pcL (u1u f.name s) ?_;simp;repeat(refine s_ ?_;simp)
def Ep(f:File)(s:List UInt8):Bool:=Op.bytesLess f.name s
def B6(a b:List UInt8):decide (Dh a b<0)=Op.bytesLess a b:=by
 unfold Dh;cases h:Op.bytesLess a b
 ·simp;split<;>simp
 simp
def lb(fs:List File)(s:List UInt8):Nat:=(fs.takeWhile (Ep · s)).length
def foundAt(fs:List File)(s:List UInt8)(i:Nat):Bool:=match fs[i]? with
 |some f=>Dh f.name s==0
 |none=>false
def g0z(fs:List File)(s:List UInt8)(i:Nat)(hi:i<=fs.length)(h1:∀k,(h:k<fs.length)->k<i->Ep fs[k] s=true)(h2:∀k,(h:k<fs.length)->i<=k->Ep fs[k] s=false):i=lb fs s:=by
 induction fs generalizing i with
 |nil=>simp at hi;subst hi;rfl
 |cons f fs ih=>
  unfold lb;rw[xj];rcases i with _|i
  ·have:=h2 0 (by simp) (zR _);simp at this;simp[this]
  have:=h1 0 (by simp) (by omega);simp at this;simp only[this,if_true,yQ];have:=ih i (by simpa using hi) (λk h hk=>by have:=h1 (k+1) (by simpa using h) (by omega);simpa using this) (λk h hk=>by have:=h2 (k+1) (by simpa using h) (by omega);simpa using this);rw[this];rfl
def x10(fs:List File)(s:List UInt8)(hn:fs.length<=1000000)(z1:∀a b,(ha:a<=b)->(hb:b<fs.length)->Ep fs[b] s=true->Ep (fs[a]'(by omega)) s=true):
  PC prog 128 [.list (fs.map encFl),.str s,.fn (.func 129) [] []] (λr=>r= .tup [.i (lb fs s),.bool (foundAt fs s (lb fs s))]):=by
 refine pcB func128 results128 ntmps128 ?_;simp only[Qf];repeat(refine s_ ?_;simp)
 refine Qk (Qg (sl':=[(0,.list (fs.map encFl)),(1,.str s),(2,.fn (.func 129) [] []),(8,.i fs.length),(9,.i 0),(10,.i fs.length)]) ?_ (by simp));refine Qp (F:=λ(p:Nat×Nat)=>⟨[(0,.list (fs.map encFl)),(1,.str s),(2,.fn (.func 129) [] []),(8,.i fs.length),(9,.i p.1),(10,.i p.2)],[]⟩)
  (λp=>p.1<=p.2/\p.2<=fs.length/\(∀k,(h:k<fs.length)->k<p.1->Ep fs[k] s=true)/\(∀k,(h:k<fs.length)->p.2<=k->Ep fs[k] s=false)) (λp=>p.2 - p.1) ?_ (0,fs.length) ⟨Nat.zero_le _,zR _,λk _ hk=>by omega,λk h hk=>by omega⟩
 rintro⟨i,j⟩ ⟨zd,hj,h1,h2⟩ ih;simp only at zd hj h1 h2;repeat(refine s_ ?_;simp)
 refine Qb rfl (λh=>?_) (λh=>?_)
 ·have zg:i<j:=by simpa using h
  obtain⟨m,hm,ze,zh⟩:∃m:Nat,IntKind.i64.wrap ((IntKind.u64.wrap (IntKind.i64.wrap (↑i+↑j))).fdiv (2 ^ min 1 IntKind.u64.bits))=(m:Int)/\i<=m/\m<j:=by refine⟨(i+j) / 2,?_,by omega,by omega⟩;rw[wrap_i64 ((i:Int)+j) (by omega) (by omega)];rw[show IntKind.u64.wrap ((i:Int)+j)=(i:Int)+j by rw[IntKind.wrap_u64];omega];rw[show(2:Int) ^ min 1 IntKind.u64.bits=2 by rfl,Int.fdiv_eq_ediv_of_nonneg _ (by omega)];rw[wrap_i64 _ (by omega) (by omega)];omega
  have za:m<fs.length:=by omega
  repeat(refine s_ ?_;simp[hm,za])
  refine pcL (y1z fs[m] s) ?_;simp;refine Qb rfl (λh=>?_) (λh=>?_)
  ·rw[B6]at h;repeat(refine s_ ?_;simp)
   refine Q8 [] (ih (m+1,j) ⟨by simp only;omega,hj,λk hk z8=>?_,h2⟩ (by simp only;omega)) rfl (by simp) ?_ (by simp) (by simp)
   ·exact z1 k m (by simp only at z8;omega) za h
   simp;exact wrap_i64 _ (by omega) (by omega)
  rw[B6]at h;repeat(refine s_ ?_;simp)
  refine Q8 [] (ih (i,m) ⟨ze,by simp only;omega,h1,λk hk z8=>?_⟩ (by simp only;omega)) rfl (by simp) ?_ (by simp) (by simp)
  ·cases hl:Ep fs[k] s
   ·rfl
   have:=z1 m k z8 hk hl;rw[Ep,h]at this;cases this
  simp
 have zf:i=j:=by simp at h;omega
 subst zf;have zb:=g0z fs s i hj h1 h2;by_cases hi:i<fs.length
 ·repeat(refine s_ ?_;simp[hi])
  refine pcL (y1z fs[i] s) ?_;simp;repeat(refine s_ ?_;simp)
  rw[<-zb];simp[foundAt,hi]
 repeat(refine s_ ?_;simp[hi])
 have zc:fs.length<=i:=by omega
 refine Wp (by simp[zc]) rfl ?_;simp[zc];repeat(refine s_ ?_;simp)
 rw[<-zb];simp[foundAt,hi]
end
section
open Go Go.Proofs
def Ea:∀a:List UInt8,Op.bytesLess a a=false
 |[]=>rfl
 |x::a=>by rw[Op.bytesLess,Ea a];simp
def Td:∀a b c:List UInt8,Op.bytesLess a b=true->Op.bytesLess b c=true->Op.bytesLess a c=true
 |_,_,[],_,h=>by cases ‹List UInt8›<;>simp[Op.bytesLess]at h
 |[],_,_::_,_,_=>rfl
 |x::a,[],_::_,h,_=>by simp[Op.bytesLess]at h
 |x::a,y::b,z::c,h1,h2=>by
  have ih:=Td a b c;simp only[Op.bytesLess,yE,zX,decide_eq_true_eq,beq_iff_eq]at h1 h2 |-;rcases h1 with h1|⟨rfl,h1⟩<;>rcases h2 with h2|⟨rfl,h2⟩
  ·exact .inl (UInt8.lt_trans h1 h2)
  ·exact .inl h1
  ·exact .inl h2
  exact .inr ⟨rfl,ih h1 h2⟩
def S3:∀a b:List UInt8,Op.bytesLess a b=false->a≠b->Op.bytesLess b a=true
 |[],[],_,h=>absurd rfl h
 |_::_,[],_,_=>rfl
 |[],_::_,h,_=>by simp[Op.bytesLess]at h
 |x::a,y::b,h,hne=>by
  have ih:=S3 a b;simp only[Op.bytesLess,vU,Bool.and_eq_false_iff,decide_eq_false_iff_not]at h;simp only[Op.bytesLess,yE,zX,decide_eq_true_eq,beq_iff_eq];rcases UInt8.lt_or_lt_of_ne (a:=x) (b:=y) |> λf=>(if hxy:x=y then .inr hxy else .inl (f hxy):(x<y\/y<x)\/x=y)with(h1|h1)|rfl
  ·exact absurd h1 h.1
  ·exact .inl h1
  refine .inr ⟨rfl,ih ?_ (λe=>hne (by rw[e]))⟩;rcases h.2 with h2|h2
  ·simp at h2
  exact h2
def Di{a b:List UInt8}(h:Y6 a b=false):Op.bytesLess b a=true:=by unfold Y6 at h;simp only[vU,beq_eq_false_iff_ne]at h;exact S3 a b h.1 h.2
def Wq(fs:List File):Prop:=fs.Pairwise (λf g=>Op.bytesLess f.name g.name=true)
def Ol:∀(fs:List File) (p:Option (List UInt8)),Bn p fs=0->Wq fs/\(∀f∈fs,E3 f.name=true)/\∀q,p=some q->∀f∈fs,Op.bytesLess q f.name=true
 |[],_,_=>⟨List.Pairwise.nil,by simp,by simp⟩
 |f::fs,p,h=>by
  rw[Bn]at h;split at h
  ·cases h
  rename_i hn;split at h
  ·cases h
  rename_i hb;obtain⟨h1,h2,h3⟩:=Ol fs (some f.name) h;refine⟨List.Pairwise.cons (h3 f.name rfl) h1,λg hg=>?_,λq hq g hg=>?_⟩
  ·rcases y_.1 hg with rfl|hg
   ·simpa using hn
   exact h2 g hg
  subst hq;have hq:Op.bytesLess q f.name=true:=Di (by simpa[An]using hb);rcases y_.1 hg with rfl|hg
  ·exact hq
  exact Td _ _ _ hq (h3 f.name rfl g hg)
def D5{d:Disk}(h:Wc d=0):Bn none d.files=0:=by
 unfold Wc at h;split at h
 ·cases h
 split at h
 ·cases h
 split at h
 ·assumption
 exact h
def Rs{d:Disk}(h:Wc d=0):Wq d.files:=(Ol _ _ (D5 h)).1
def Wq.mono{fs:List File}(h:Wq fs)(s:List UInt8):∀a b,(ha:a<=b)->(hb:b<fs.length)->Ep fs[b] s=true->Ep (fs[a]'(by omega)) s=true:=λa b ha hb hl=>by
 rcases Nat.lt_or_eq_of_le ha with h1|rfl
 ·have:=xW.1 h a b (by omega) hb h1;exact Td _ _ _ this hl
 exact hl
def v0f(d:Disk)(s:List UInt8)(hn:d.files.length<=1000000)(hs:Wq d.files):PC prog 105 [encD d,.str s] (λr=>r= .tup [.i (lb d.files s),.bool (foundAt d.files s (lb d.files s))]):=by
 refine pcB func105 results105 ntmps105 ?_;simp only[Qf];simp only[encD];repeat(refine s_ ?_;simp)
 refine pcL (x10 d.files s hn (hs.mono s)) ?_;simp;repeat(refine s_ ?_;simp)
def Ei(fs:List File)(s:List UInt8)(i:Nat)(hi:i<fs.length):foundAt fs s i=(fs[i].name==s):=by
 by_cases h:fs[i].name=s
 ·simp[foundAt,hi,Dh,h,Ea,Y6]
 have h2:(fs[i].name==s)=false:=by simp[h]
 by_cases hb:Op.bytesLess fs[i].name s=true
 ·simp[foundAt,hi,Dh,Y6,hb,h2]
 simp[foundAt,hi,Dh,Y6,hb,h2]
def j0b(fs:List File)(s:List UInt8)(k:Nat)(hs:Wq fs):findF fs s k=if foundAt fs s (lb fs s)=true then some (k+lb fs s)else none:=by
 induction fs generalizing k with
 |nil=>rfl
 |cons f fs ih=>
  have za:Wq fs:=(xO.1 hs).2;have zb:lb (f::fs) s=if Ep f s=true then lb fs s+1 else 0:=by simp only[lb,xj];split<;>simp
  rw[findF,zb];by_cases hf:f.name=s
  ·have h1:Ep f s=false:=by rw[Ep,hf,Ea]
   simp only[h1,wF,if_false];rw[if_pos hf,Ei _ _ _ (by simp)];simp[hf]
  rw[if_neg hf,ih _ za];cases h1:Ep f s
  ·-- all behind are greater still
   have z8:Op.bytesLess s f.name=true:=S3 _ _ h1 hf;have hz:lb fs s=0:=by
    cases fs with
    |nil=>rfl
    |cons g fs=>
     have z1:=(xO.1 hs).1 g (by simp);have:Ep g s=false:=by
      cases hg:Ep g s
      ·rfl
      have:=Td _ _ _ (Td _ _ _ z8 z1) hg;rw[Ea]at this;cases this
     simp[lb,this]
   have zc:foundAt fs s 0=false:=by
    cases fs with
    |nil=>rfl
    |cons g fs=>rw[Ei _ _ _ (by simp)];have z1:=(xO.1 hs).1 g (by simp);have:=Td _ _ _ z8 z1;simp only[wV,beq_eq_false_iff_ne];rintro e;rw[e,Ea]at this;cases this
   rw[hz,zc];simp only[wF,if_false];rw[Ei _ _ _ (by simp)];simp[hf]
  simp only[if_true];have:foundAt (f::fs) s (lb fs s+1)=foundAt fs s (lb fs s):=by simp[foundAt]
  rw[this];split
  ·congr 1;omega
  rfl
end
section
open Go Go.Proofs
def v1l(f:File)(s:List UInt8):PC prog 156 [encFl f,.iptr [.str s]] (λr=>r= .bool (f.name==s)):=by refine pcB func156 results156 ntmps156 ?_;simp only[Qf];simp only[encFl];repeat(refine s_ ?_;simp)
def La(fs:List File)(s:List UInt8):Int:=match findF fs s 0 with
 |none=> -1
 |some i=>i
def x18(fs:List File)(s:List UInt8):PC prog 155 [.list (fs.map encFl),.fn (.func 156) [] [.iptr [.str s]]] (λr=>r= .i (La fs s)):=by
 refine pcB func155 results155 ntmps155 ?_;simp only[Qf];refine Jx 0 rfl (λhlen=>?_);rw[xp]at hlen;repeat(refine s_ ?_;simp)
 refine E9 fs.length (λj=>findF fs s 0=findF (fs.drop j) s j) (λj=>[(0,.list (fs.map encFl)),(1,.fn (.func 156) [] [.iptr [.str s]]),(7,.i fs.length),(8,.i j)]) (λ_=>[]) rfl (by simp) (by simp) (by simp) (by simp) (by simp) ?_;intro j hj hI ih;repeat(refine s_ ?_;simp)
 refine Qb rfl (λza=>?_) (λzb=>?_)
 ·have z1:j<fs.length:=by simpa using za
  rw[Xm z1,findF]at hI;repeat(refine s_ ?_;simp[z1])
  refine pcL (v1l fs[j] s) ?_;simp;refine Qb rfl (λh=>?_) (λh=>?_)
  ·repeat(refine s_ ?_;simp)
   simp at h;rw[if_pos h]at hI;simp[La,hI]
  repeat(refine s_ ?_;simp)
  simp at h;rw[if_neg h]at hI;refine Q8 _ (ih z1 hI) rfl (by simp) ?_ (by simp) (by simp);simp;exact wrap_i64 _ (by omega) (by omega)
 have z8:j=fs.length:=by simp at zb;omega
 subst z8;repeat(refine s_ ?_;simp)
 rw[uh]at hI;simp[La,hI,findF]
def z1c(d:Disk)(s:List UInt8):PC prog 116 [encD d,.str s] (λr=>r=Z8 (findF d.files s 0)):=by
 refine pcB func116 results116 ntmps116 ?_;simp only[Qf];simp only[encD];repeat(refine s_ ?_;simp)
 refine Wf rfl rfl (by first|(simp;done)|(simp;rfl)) (x18 d.files s) rfl ?_;rintro _ rfl;refine⟨by first|simp|rfl|trivial,?_⟩;simp;repeat(refine s_ ?_;simp)
 rcases z1:findF d.files s 0 with _|i
 ·simp[La,z1,Z8]
 simp[La,z1,Z8];intro h;omega
def A3(d:Disk)(s:List UInt8):Tc d [s]=Tu d s:=by simp[Tc,Tu]
def A1(d:Disk)(s:List UInt8)(hs:Wq d.files):findF d.files s 0=if foundAt d.files s (lb d.files s)=true then some (lb d.files s)else none:=by rw[j0b d.files s 0 hs];simp
end
section
open Go Go.Proofs
def u1f(s b:List UInt8):PC prog 102 [.str s,.iptr [.str b]] (λr=>r= .str b):=by refine pcB func102 results102 ntmps102 ?_;simp only[Qf];repeat(refine s_ ?_;simp)
def u1a(a b:List Int):PC prog 17 [.list (a.map encI),.list (b.map encI)] (λr=>r= .bool (decide (a=b))):=by
 refine pcB func17 results17 ntmps17 ?_;simp only[Qf];refine Jx 0 rfl (λhlen=>?_);rw[xp]at hlen;repeat(refine s_ ?_;simp)
 refine Qb rfl (λh=>?_) (λh1=>?_)
 ·repeat(refine s_ ?_;simp)
  rintro rfl;simp at h
 have hl:a.length=b.length:=by simp at h1;omega
 repeat(refine s_ ?_;simp)
 refine E9 a.length (λj=>a.take j=b.take j) (λj=>[(0,.list (a.map encI)),(1,.list (b.map encI)),(12,.i a.length),(13,.i j)]) (λ_=>[]) rfl (by simp) (by simp) (by simp) (by simp) (by simp) ?_;intro j hj hI ih;repeat(refine s_ ?_;simp)
 refine Qb rfl (λzb=>?_) (λzc=>?_)
 ·have z1:j<a.length:=by simpa using zb
  have z8:j<b.length:=by omega
  repeat(refine s_ ?_;simp)
  refine R7 tOk mixed [] [0,1,2,3,4,5,6,7,8] rfl (by kernel_rfl) ?_;simp[z1,z8];refine Qb rfl (λh=>?_) (λh=>?_)
  ·repeat(refine s_ ?_;simp)
   rintro rfl;simp at h
  repeat(refine s_ ?_;simp)
  have he:a[j]=b[j]:=by simpa using h
  refine Q8 _ (ih z1 (Xt z1 z8 hI he)) rfl (by simp) ?_ (by simp) (by simp);simp;exact wrap_i64 _ (by omega) (by omega)
 have za:j=a.length:=by simp at zc;omega
 subst za;repeat(refine s_ ?_;simp)
 rw[yV,hl,yV]at hI;exact hI
def x14(a:List Int)(hb:a.length<=1000000000000):PC prog 82 [.list (a.map encI)] (λr=>r= .list (a.map encI)):=by
 refine pcB func82 results82 ntmps82 ?_;simp only[Qf];repeat(refine s_ ?_;simp)
 refine Uu tOk rfl rfl T23 rfl rfl rfl (λb z1=>?_);simp;refine Qb rfl (λh=>?_) (λh=>?_)
 ·subst h;have:a=[]:=by
   cases a
   ·rfl
   have:=z1 (by simp);cases this
  subst this;repeat(refine s_ ?_;simp)
 repeat(refine s_ ?_;simp)
 refine apS T23 T3 ?_;simp;refine⟨by simp[Em];omega,?_⟩;repeat(refine s_ ?_;simp)
 simp[Qj]
def y15(fs:List File)(hb:fs.length<=1000000):FR prog 106 [.list (fs.map encFl)] 155 3 (λr=>r=fs.map encFl):=by
 refine D3 tOk func106 rfl results106 rfl (by simp[ntmps106]) ?_;rw[ntmps106];simp only[Qf];repeat(refine s_ ?_;simp)
 refine Uu tOk rfl rfl T37 rfl rfl rfl (λb z1=>?_);simp;refine Qb rfl (λh=>?_) (λh=>?_)
 ·subst h;have:fs=[]:=by
   cases fs
   ·rfl
   have:=z1 (by simp);cases this
  subst this;repeat(refine s_ ?_;simp)
 repeat(refine s_ ?_;simp)
 refine apS T37 q08 ?_;simp;refine⟨by simp[Em]<;>omega,?_⟩;repeat(refine s_ ?_;simp)
end
section
open Go Go.Proofs
attribute [simp] k1s
def v1i(o0 o1 o3 o4 o5 o6:AObj)(cs:List Int)(n:Int)(hn:0<n):FC prog 81 [.vptr 2 0,.int .i64 n] [o0,o1,.vars [.list (cs.map encI)],o3,o4,o5,o6]
  (λr H'=>r= .i (Tf cs n).1/\H'=[o0,o1,.vars [.list ((Tf cs n).2.map encI)],o3,o4,o5,o6]):=by
 refine fcB func81 results81 ntmps81 ?_;simp only[Qf];repeat(refine s_ ?_;simp)
 rcases cs with _|⟨c,cs⟩
 ·refine Qh rfl ?_;repeat(refine s_ ?_;simp)
  simp[Tf]
 have z1:¬n=0:=by omega
 refine Qh (b:=false) ?_ ?_
 ·simp;omega
 have g:(1:Int)<=(cs.length:Int)+1:=by omega
 repeat(refine s_ ?_;simp[z1,g])
 refine Qb rfl (λh=>?_) (λh=>?_)
 ·repeat(refine s_ ?_;simp)
  simp at h;simp[Tf,q1e,h]
 repeat(refine s_ ?_;simp)
 simp at h;simp only[Tf,q1e];rw[if_neg (by omega)];simp
def k1z(o0 o1 o3 o4 o5:AObj)(f:File)(cs:List Int)(hb:f.vol.length<=9223372036854775807):FC prog 80 [encFl f,.fn (.func 81) [.vptr 2 0] []] [o0,o1,.vars [.list (cs.map encI)],o3,o4,o5]
  (λr H'=>r= .str (Es f cs).1/\∃o6,H'=[o0,o1,.vars [.list ((Es f cs).2.map encI)],o3,o4,o5,o6]):=by
 refine fcB func80 results80 ntmps80 ?_;simp only[Qf];simp only[encFl];repeat(refine s_ ?_;simp)
 refine Qb rfl (λh=>?_) (λh0=>?_)
 ·repeat(refine s_ ?_;simp)
  simp at h;simp[Es,h]
 simp at h0;repeat(refine s_ ?_;simp)
 refine Qd rfl rfl (v1i o0 o1 o3 o4 o5 _ cs 3 (by omega)) rfl ?_;rintro _ _ ⟨rfl,rfl⟩;simp;repeat(refine s_ ?_;simp)
 refine Qb rfl (λh=>?_) (λh1=>?_)
 ·repeat(refine s_ ?_;simp)
  simp at h;simp[Es,h0,h]
 simp at h1;repeat(refine s_ ?_;simp)
 refine Qb rfl (λh=>?_) (λh2=>?_)
 ·repeat(refine s_ ?_;simp)
  simp at h;simp[Es,h0,h]
 simp at h2;repeat(refine s_ ?_;simp)
 refine Qb rfl (λh=>?_) (λh3=>?_)
 ·repeat(refine s_ ?_;simp)
  simp at h;rw[h]at h0;simp[Es,h0,h1,h2,h]
 simp at h3;have z1:(0:Int)<f.vol.length:=by have:=vX.2 h3;omega
 have hq:0<=(Tf (Tf cs 3).2 f.vol.length).1/\(Tf (Tf cs 3).2 f.vol.length).1<=f.vol.length:=by
  unfold Tf;split
  ·simp
  have:=d0i ‹Int› f.vol.length z1 (by omega);simp only;omega
 repeat(refine s_ ?_;simp)
 refine Qw tOk mixed [6] (.val 0 (.val 2 (.val 3 (.val 4 (.val 5 (.two 1 (.one 6 (.one 7 (.one 8 .done))) 6 (.one 1 (.one 7 (.one 8 .done))))))))) rfl (by kernel_rfl) ?_;simp;refine⟨?_,?_⟩
 ·refine Qd rfl rfl (v1i o0 o1 o3 o4 o5 _ _ _ z1) rfl ?_;rintro _ _ ⟨rfl,rfl⟩;simp[hq];repeat(refine s_ ?_;simp)
  simp[Es,h0,h1,h2,h3]
 refine Qd rfl rfl (v1i o0 o1 o3 o4 o5 _ _ _ z1) rfl ?_;rintro _ _ ⟨rfl,rfl⟩;simp[hq];repeat(refine s_ ?_;simp)
 simp[Es,h0,h1,h2,h3]
end
section
open Go Go.Proofs
def Mp(f:File)(cs:List Int):(Es f cs).2.length<=cs.length:=by
 have hd:∀(c:List Int) (n:Int),(Tf c n).2.length<=c.length:=λc n=>by cases c<;>simp[Tf]
 unfold Es;split
 ·simp
 simp only;split
 ·exact hd _ _
 split
 ·exact hd _ _
 split
 ·exact hd _ _
 exact yD (hd _ _) (hd _ _)
def Zp(fs:List File)(cs:List Int):(W3 fs cs).2.length<=cs.length/\Aw (W3 fs cs).1=A0 (W3 fs cs).1:=by
 have key:∀(l:List File) (st:List File×List Int),st.2.length<=cs.length/\Aw st.1=A0 st.1->(l.foldl Et st).2.length<=cs.length/\Aw (l.foldl Et st).1=A0 (l.foldl Et st).1:=by
  intro l;induction l with
  |nil=>intro st h;exact h
  |cons g l ih=>
   intro st h;rw[xK];refine ih _ ⟨?_,?_⟩
   ·exact yD (Mp g st.2) h.1
   have:=h.2;simp only[Aw,A0,Et,xG,vn,z_,yM,xH,uG]at this |-;omega
 exact key fs ([],cs) ⟨zR _,rfl⟩
def v1e(d:Disk)(zd:VB d.files)(cs:List Int)(zh:cs.length<=1000000000000):PC prog 45 [encD d,.list (cs.map encI)] (λr=>r= .tup [encD (R2 d cs).1,.list ((R2 d cs).2.1.map encI),.i (R2 d cs).2.2]):=by
 refine pcB func45 results45 ntmps45 ?_;simp only[Qf];simp only[encD];repeat(refine s_ ?_;simp)
 refine pcL (y0v d) ?_;simp;repeat(refine s_ ?_;simp)
 refine Qb rfl (λh=>?_) (λh1=>?_)
 ·repeat(refine s_ ?_;simp)
  simp at h;simp[R2,h,W7]
 simp at h1;have hl:=T7 h1;repeat(refine s_ ?_;simp)
 refine Iw 3 0 155 3 rfl rfl ?_;simp;refine Ib d.files.length (λj=>[(2,.vptr 0 0),(4,.vptr 1 0),(8,.vptr 2 0),(9,.vptr 3 0),(28,.list (d.files.map encFl)),(29,.i d.files.length),(30,.i j)]) (λj=>[.vars [.list (d.files.map encFl),.i d.space],.vars [.nils,.i 0],.vars [.list ((W3 (d.files.take j) cs).2.map encI)],.vars [.sl 4 3 0 (W3 (d.files.take j) cs).1.length,.i d.space],.arr 155 3 ((W3 (d.files.take j) cs).1.map encFl)]) rfl (by simp) (by simp[W3]) (by simp) (by simp) ?_;intro j hj ih;have za:=Iv (d.files.take j) cs;rw[vw]at za;repeat(refine s_ ?_;simp)
 refine Qb rfl (λze=>?_) (λzf=>?_)
 ·have z1:j<d.files.length:=by simpa using ze
  have zb:=Cm d.files cs j z1;generalize zi:W3 (d.files.take j) cs=st at zb za;obtain⟨out,ch⟩:=st;simp only at za;repeat(refine s_ ?_;simp[z1])
  refine Qd rfl rfl (k1z _ _ _ _ _ d.files[j] ch (zd _ (yB z1))) rfl ?_;rintro _ _ ⟨rfl,o6,rfl⟩;simp;repeat(refine s_ ?_;simp)
  refine apS T37 q08 ?_;simp;refine⟨by simp[Em]<;>omega,?_⟩;repeat(refine s_ ?_;simp)
  simp only[Et]at zb;refine Z5 [0,1,2,3,8] (ih z1) (by rw[zb];simp) (by decide) (by simp) (by simp) (by simp) (by simp) ?_;simp;exact wrap_i64 _ (by omega) (by omega)
 have zc:j=d.files.length:=by simp at zf;omega
 subst zc;have zg:=Zp d.files cs;rw[yV]at za |-;repeat(refine s_ ?_;simp)
 refine Wf rfl rfl (by first|(simp[Qj];done)|(simp[Qj];rfl)) (Lx (W3 d.files cs).1) rfl ?_;rintro _ rfl;refine⟨by first|simp|rfl|trivial,?_⟩;simp[Qj];repeat(refine s_ ?_;simp)
 have hlen:(W3 d.files cs).1.length=d.files.length:=by omega
 have z8:Lv ⟨(W3 d.files cs).1,d.space⟩=if d.space<W (Aw (W3 d.files cs).1)then(W7,27)else(⟨(W3 d.files cs).1,d.space⟩,0):=by rw[Lv,if_neg (by simp only;omega)];simp only[Ff,<-zg.2];by_cases hh:d.space<W (Aw (W3 d.files cs).1)<;>simp[hh]
 refine Qb rfl (λh=>?_) (λh2=>?_)
 ·repeat(refine s_ ?_;simp)
  simp at h;simp[R2,h1,z8,h,W7]
 simp at h2;repeat(refine s_ ?_;simp)
 refine R7 tOk mixed [6] [0,1,2,3,4,5,6,7,8] rfl (by kernel_rfl) ?_;simp;refine pcL (x14 (W3 d.files cs).2 (by omega)) ?_;simp;repeat(refine s_ ?_;simp[Qj])
 simp[R2,h1,z8,show ¬d.space<W (Aw (W3 d.files cs).1) by omega,Qj]
end
def P6(A:List AV)(i n:Nat)(hA:A.length=n)(hi:i<n):∃B c C,A=B++c::C/\B.length=i/\n=B.length+(C.length+1):=by refine⟨A.take i,A[i]'(by omega),A.drop (i+1),?_,by simp;omega,by simp;omega⟩;rw[List.getElem_cons_drop];exact(yN i A).symm
def y1g(A:List AV)(i n:Nat)(x Z:AV)(hA:A.length=n)(hi:i<n):
  xJ i (A.take i++zH (n+1 - i) Z)++xJ (n+1 - i) [x]++xS (i+xF [x].length (n+1 - i)) (A.take i++zH (n+1 - i) Z)=A.take i++x::zH (n - i) Z:=by
 obtain⟨B,c,C,rfl,rfl,rfl⟩:=P6 A i n hA hi;have e1:B.length+(C.length+1)+1 - B.length=C.length+2:=by omega
 have e2:B.length+(C.length+1) - B.length=C.length+1:=by omega
 have hm:xF [x].length (C.length+2)=1:=wR (by simp);rw[e1,e2,hm];simp[List.replicate_succ]
def z1u(A:List AV)(i n:Nat)(x Z:AV)(hA:A.length=n)(hi:i<n):
  xJ (i+1) (A.take i++x::zH (n - i) Z)++xJ (n - i) ((A.drop i).take (n - i))++xS (i+1+xF ((A.drop i).take (n - i)).length (n - i)) (A.take i++x::zH (n - i) Z)=A.take i++x::A.drop i:=by
 obtain⟨B,c,C,rfl,rfl,rfl⟩:=P6 A i n hA hi;have e2:B.length+(C.length+1) - B.length=C.length+1:=by omega
 have hd:(xS B.length (B++c::C))=c::C:=by simp
 have ht:(c::C).take (C.length+1)=c::C:=zY (by simp);have hm:xF (c::C).length (C.length+1)=C.length+1:=Nat.min_self _;rw[e2,hd,ht,hm,ht];have h1:xJ B.length (B++c::C)=B:=by simp
 rw[h1];have h2:xS (B.length+1+(C.length+1)) (B++x::zH (C.length+1) Z)=[]:=xE (by simp;omega);rw[h2];have h3:xJ (B.length+1) (B++x::zH (C.length+1) Z)=B++[x]:=by rw[vl,zY (by omega),show B.length+1 - B.length=1 by omega];simp
 rw[h3];simp
def y1m(A:List AV)(i n:Nat)(Z:AV)(hA:A.length=n)(hi:i<n):
  xJ (i+1) (A++[Z])++xJ (n - i) (((A++[Z]).drop i).take (n+1 - i))++xS (i+1+xF (((A++[Z]).drop i).take (n+1 - i)).length (n - i)) (A++[Z])=A.take (i+1)++A.drop i:=by
 obtain⟨B,c,C,rfl,rfl,rfl⟩:=P6 A i n hA hi;have e1:B.length+(C.length+1)+1 - B.length=C.length+2:=by omega
 have e2:B.length+(C.length+1) - B.length=C.length+1:=by omega
 have h0:B++c::C++[Z]=B++(c::(C++[Z])):=by simp
 have hd:xS B.length (B++(c::(C++[Z])))=c::(C++[Z]):=by simp
 have z1:xS B.length (B++c::C)=c::C:=by simp
 have ht:(c::(C++[Z])).take (C.length+2)=c::(C++[Z]):=zY (by simp);have z8:(c::(C++[Z])).take (C.length+1)=c::C:=by simp
 have hm:xF (c::(C++[Z])).length (C.length+1)=C.length+1:=Nat.min_eq_right (by simp);rw[e1,e2,h0,hd,ht,z8,hm,z1];have h2:xS (B.length+1+(C.length+1)) (B++c::(C++[Z]))=[]:=xE (by simp;omega);have h3:∀D:List AV,xJ (B.length+1) (B++c::D)=B++[c]:=λD=>by rw[vl,zY (by omega),show B.length+1 - B.length=1 by omega];simp
 rw[h2,h3,h3];simp
def q19(A:List AV)(i n:Nat)(Z:AV)(hA:A.length=n)(hi:i<n):xJ (n - i) (((A++[Z]).drop i).take (n+1 - i))=A.drop i:=by
 obtain⟨B,c,C,rfl,rfl,rfl⟩:=P6 A i n hA hi;have e1:B.length+(C.length+1)+1 - B.length=C.length+2:=by omega
 have e2:B.length+(C.length+1) - B.length=C.length+1:=by omega
 have h0:B++c::C++[Z]=B++(c::(C++[Z])):=by simp
 have hd:xS B.length (B++(c::(C++[Z])))=c::(C++[Z]):=by simp
 have z1:xS B.length (B++c::C)=c::C:=by simp
 have ht:(c::(C++[Z])).take (C.length+2)=c::(C++[Z]):=zY (by simp);rw[e1,e2,h0,hd,ht,z1];simp
def z1b(A:List AV)(i n:Nat)(x:AV)(hA:A.length=n)(hi:i<n):
  xJ i (A.take (i+1)++A.drop i)++xJ (n+1 - i) [x]++xS (i+xF [x].length (n+1 - i)) (A.take (i+1)++A.drop i)=A.take i++x::A.drop i:=by
 obtain⟨B,c,C,rfl,rfl,rfl⟩:=P6 A i n hA hi;have e1:B.length+(C.length+1)+1 - B.length=C.length+2:=by omega
 have hm:xF [x].length (C.length+2)=1:=wR (by simp);have h3:xJ (B.length+1) (B++c::C)=B++[c]:=by rw[vl,zY (by omega),show B.length+1 - B.length=1 by omega];simp
 rw[e1,hm,h3];have h4:xS (B.length+1) (B++[c]++xS B.length (B++c::C))=c::C:=by rw[List.drop_left' (by simp)];simp
 rw[h4];simp
section
open Go Go.Proofs
def Wb(fs:List File)(i:Nat)(x:File):List File:=fs.take i++x::fs.drop i
def v14(H:List AObj)(id id2:Nat)(fs:List File)(i:Nat)(x:File)(hid:H[id]?=some (.arr 155 3 (fs.map encFl)))(z8:H[id2]?=some (.arr 155 3 [encFl x]))(ze:id≠id2)(hi:i<=fs.length)(hb:fs.length<=1000000):
  FC prog 107 [.sl id 3 0 fs.length,.int .i64 i,.sl id2 3 0 1] H (λr H'=>r= .sl H.length 3 0 (fs.length+1)/\∃G,H'=H.set id .dead++ .arr 155 3 ((Wb fs i x).map encFl)::G):=by
 refine fcB func107 results107 ntmps107 ?_;simp only[Qf];have z1:id<H.length:=(zD.1 hid).1;have zn:(i:Int)<=fs.length:=by omega
 repeat(refine s_ ?_;simp[hi])
 refine Qh rfl ?_;repeat(refine s_ ?_;simp)
 refine Qb rfl (λh=>?_) (λh=>?_)
 ·have he:i=fs.length:=by simp at h;omega
  subst he;repeat(refine s_ ?_;simp)
  refine apS T37 q08 ?_;simp[hid,z8];refine⟨by simp[Em];omega,?_⟩;repeat(refine s_ ?_;simp)
  simp[Wb]
 have za:i<fs.length:=by simp at h;omega
 have hw1:IntKind.i64.wrap ((fs.length:Int)+1)=fs.length+1:=wrap_i64 _ (by omega) (by omega);have zb:id2<H.length:=(zD.1 z8).1;have g2:∀v l,(H.set id v++l)[id2]?=some (.arr 155 3 [encFl x]):=by intro v l;rw[zK (by simpa using zb),zI ze];exact z8
 have g0:∀v a,(H.set id v++[a])[H.length]?=some a:=by intro v a;simp
 have gs:∀v a b,(H.set id v++[a]).set H.length b=H.set id v++[b]:=by intro v a b;simp
 have g1:∀v l,(H.set id v++l)[id]?=some v:=by intro v l;rw[zK (by simpa using z1),zJ z1]
 have gk:∀v l b,(H.set id v++l).set id b=H.set id b++l:=by intro v l b;rw[List.set_append_left _ _ (by simpa using z1),List.set_set]
 have zc:i<=fs.length+1:=by omega
 have zg:¬((fs.length:Int)+1<=fs.length):=by omega
 have zh:i+(fs.length+1 - i)=fs.length+1:=by omega
 repeat(refine s_ ?_;simp[hw1])
 refine Gd (xs:=fs.map encFl) (e:=155) (c:=3) (id:=id) 0 (by decide) (by simp) hid (by simp;omega) ?_ ?_
 ·refine Cz tOk rfl rfl T37 rfl (by decide) rfl (zJ z1) rfl (λn hn=>?_);simp at hn;simp;refine Qh (b:=false) (by simp;omega) ?_;repeat(refine s_ ?_;simp[hw1,zg])
  refine J4 (id:=id) (len:=fs.length) (hi:=fs.length+1) (e':=155) (xs:=fs.map encFl++[.agg [.top,.top,.top]]) tOk rfl rfl T37 rfl q08 rfl (by simp) (by decide) (by simp[z1]) (by simp) (by omega) rfl ?_;simp;have zd:IntKind.i64.wrap ((i:Int)+1)=(i:Int)+1:=wrap_i64 _ (by omega) (by omega);have zf:(0:Int)<=(i:Int)+1/\(i:Int)+1<=(fs.length:Int)+1:=by omega
  repeat(refine s_ ?_;simp[zd,zf,zc])
  refine Gb (i:=id2) (j:=id) (c:=3) tOk rfl rfl func131 (by kernel_rfl) (λvs w=>run_callFunc_extern func131 (by kernel_rfl) (by kernel_rfl) (by kernel_rfl) (e:=Extern.SlicesOverlaps.overlaps #[37,37] #[4]) (by kernel_rfl) vs w) T37 rfl q08 (by decide) rfl rfl (by rw[zI ze];exact z8) (zJ z1) ze.symm (by omega) (by omega) rfl ?_;simp;refine Qh rfl ?_;repeat(refine s_ ?_;simp[zd])
  refine R7 tOk mixed [8] [0,1,2,3,4,5,6,7,8] rfl (by kernel_rfl) ?_;simp[zd,zf,zc];refine Iz (id:=id) (lo:=i+1) (len:=fs.length - i) (ys:=((fs.map encFl++[AV.agg [.top,.top,.top]]).drop i).take (fs.length+1 - i)) tOk rfl rfl T37 rfl q08 rfl rfl (by simp[U3,z1];omega) (zJ z1) (by simp;omega) ?_ rfl ?_
  ·intro y hy;rw[q19 (fs.map encFl) i fs.length _ (by simp) za]at hy;have:=wd hy;simp at this;obtain⟨g,_,rfl⟩:=this;simp
  rw[y1m (fs.map encFl) i fs.length _ (by simp) za];simp;repeat(refine s_ ?_;simp[zc])
  refine Iz (id:=id) (lo:=i) (len:=fs.length+1 - i) (ys:=[encFl x]) tOk rfl rfl T37 rfl q08 rfl rfl (by simp[U3];rw[zI ze,z8];simp) (zJ z1) (by simp;omega) ?_ rfl ?_
  ·intro y hy;have:=xL hy;simp at this;subst this;simp
  have zj:=z1b (fs.map encFl) i fs.length (encFl x) (by simp) za;rw[zj];simp;refine u0q 0 (id:=id) (c:=3) (len:=fs.length+1) (e:=155) (xs:=(fs.take i++x::fs.drop i).map encFl) (by simp) (by simp[z1]) ?_;simp;repeat(refine s_ ?_;simp)
  simp[Wb]
 refine X2 tOk rfl rfl T37 rfl (by decide) rfl (zJ z1) fs.length ?_ rfl ?_
 ·have:=(Uh 3 (fs.map encFl) (by simp)).1;simpa using this
 simp;refine Qh (b:=true) (by simp;omega) ?_;have zk:IntKind.i64.wrap ((fs.length:Int)+1 - i)=((fs.length+1 - i:Nat):Int):=by rw[wrap_i64 _ (by omega) (by omega)];omega
 repeat(refine s_ ?_;simp[hw1,zk,hi])
 refine Sm (xs:=fs.map encFl) (id:=id) (i:=i) (n:=fs.length+1 - i) tOk rfl rfl T37 rfl T3 rfl q08 rfl (by decide) rfl rfl (by simp[z1]) (by simp) (by simpa using hi) (by simp;omega) (by omega) (by simp;omega) (by omega) (.agg [.str [],.str [],.str []]) rfl rfl ?_;simp[zh];refine Nc id 3 (xs:=fs.map encFl) (g1 _ _) (by simp) (by simp;omega) (λe'=>?_);rw[gk];repeat(refine s_ ?_;simp[zc])
 refine Iz (id:=H.length) (lo:=i) (len:=fs.length+1 - i) (ys:=[encFl x]) (e':=155) (xs:=(fs.map encFl).take i++zH (fs.length+1 - i) (.agg [.str [],.str [],.str []])) tOk rfl rfl T37 rfl q08 rfl rfl (by simp[g2]) (by simp) (by simp;omega) ?_ rfl ?_
 ·intro y hy;have:=xL hy;simp at this;subst this;simp
 rw[y1g (fs.map encFl) i fs.length _ _ (by simp) za];have zl:xF [encFl x].length (fs.length+1 - i)=1:=wR (by simp;omega);rw[zl];simp;have zd:IntKind.i64.wrap ((i:Int)+1)=(i:Int)+1:=wrap_i64 _ (by omega) (by omega);have zf:(0:Int)<=(i:Int)+1/\(i:Int)+1<=(fs.length:Int)+1:=by omega
 have zm:i<=fs.length:=hi;repeat(refine s_ ?_;simp[zc])
 refine R7 tOk mixed [8] [0,1,2,3,4,5,6,7,8] rfl (by kernel_rfl) ?_;simp[zd,zf,zm];refine Iz (id:=H.length) (lo:=i+1) (len:=fs.length - i) (ys:=((fs.map encFl).drop i).take (fs.length - i)) tOk rfl rfl T37 rfl q08 rfl rfl (by simp[U3,g1];omega) (g0 _ _) (by simp;omega) ?_ rfl ?_
 ·intro y hy;have:=wd (xL (xL hy));simp at this;obtain⟨g,_,rfl⟩:=this;simp
 have zi:=z1u (fs.map encFl) i fs.length (encFl x) (.agg [.str [],.str [],.str []]) (by simp) za;simp only[encFl]at zi;rw[zi];simp;refine u0f id ?_;rw[gk];repeat(refine s_ ?_;simp)
 simp[Wb]
end
section
open Go Go.Proofs
end
section
open Go Go.Proofs
def Yq(d:Disk)(s:List UInt8):List File:=if foundAt d.files s (lb d.files s)=true then d.files else Wb d.files (lb d.files s) ⟨s,[],[]⟩
def Uz(fs:List File)(p:Nat)(g:List UInt8->List UInt8):List File:=match fs[p]? with
 |some f=>fs.set p { f with vol:=g f.vol }
 |none=>fs
def C5(fs:List File)(space:Int):Disk×Int:=if(256:Int)<fs.length then(W7,5)else if space<W (Aw fs)then(W7,27)else(⟨fs,space⟩,0)
def Wl(d:Disk)(s:List UInt8)(g:List UInt8->List UInt8):Disk×Int:=if Tu d s=0 then C5 (Uz (Yq d s) (lb d.files s) g) d.space else(W7,Tu d s)
def Xs(fs:List File)(s:List UInt8):lb fs s<=fs.length:=(List.takeWhile_sublist _).length_le
def W8{fs:List File}{s:List UInt8}{i:Nat}(h:foundAt fs s i=true):i<fs.length:=by
 unfold foundAt at h;split at h
 ·rename_i f hf;exact(zD.1 hf).1
 cases h
def Ia(fs:List File)(i:Nat)(x:File)(h:i<=fs.length):(Wb fs i x).length=fs.length+1:=by simp[Wb];omega
def u1h(f:Nat)(b:List UInt8)(g:List UInt8->List UInt8)(d:Disk)(s:List UInt8)(hg:∀v:List UInt8,(v=[]\/∃x∈d.files,x.vol=v)->PC prog f [.str v,.iptr [.str b]] (λr=>r= .str (g v))):
  PC prog 101 [encD d,.str s,.fn (.func f) [] [.iptr [.str b]]] (λr=>r= .tup [encD (Wl d s g).1,.i (Wl d s g).2]):=by
 refine pcB func101 results101 ntmps101 ?_;simp only[Qf];simp only[encD];repeat(refine s_ ?_;simp)
 refine Wf rfl rfl (by first|(simp;done)|(simp;rfl)) (c0k d [s]) rfl ?_;rintro _ rfl;refine⟨by first|simp|rfl|trivial,?_⟩;simp;repeat(refine s_ ?_;simp)
 rw[A3];refine Qb rfl (λh=>?_) (λh1=>?_)
 ·repeat(refine s_ ?_;simp)
  simp at h;simp[Wl,h,W7]
 simp at h1;have hc:=Ys h1;have hl:=T7 hc;have zh:=Rs hc;have hp:=Xs d.files s;repeat(refine s_ ?_;simp)
 refine Qw tOk mixed [7] (.val 0 (.val 1 (.val 3 (.val 4 (.two 2 (.val 5 (.one 6 (.one 7 .done))) 6 (.one 2 (.one 5 (.one 7 .done)))))))) rfl (by kernel_rfl) ?_;simp;refine⟨?_,?_⟩
 ·refine Tg rfl rfl (by simp) (y15 d.files (by omega)) rfl ?_;rintro _ rfl;simp;refine Qo (sl':=[(1,.str s),(2,.fn (.func f) [] [.iptr [.str b]]),(3,.vptr 0 0),(6,.vptr 1 0),(7,.i 0),(9,.vptr 4 0)]) ?_ (by simp);repeat(refine s_ ?_;simp)
  refine pcL (v0f d s (by omega) zh) ?_;simp;repeat(refine s_ ?_;simp)
  refine Qb rfl (λze=>?_) (λhf=>?_)
  ·simp at ze;repeat(refine s_ ?_;simp)
   have zf:=Ia d.files (lb d.files s) ⟨s,[],[]⟩ hp;have z8:lb d.files s<(Wb d.files (lb d.files s) ⟨s,[],[]⟩).length:=by omega
   have z1:Yq d s=Wb d.files (lb d.files s) ⟨s,[],[]⟩:=by rw[Yq,if_neg (by simp[ze])]
   have zc:((Wb d.files (lb d.files s) ⟨s,[],[]⟩).map encFl)[lb d.files s]?=some (encFl (Wb d.files (lb d.files s) ⟨s,[],[]⟩)[lb d.files s]):=by simp[z8]
   have zg:(Wb d.files (lb d.files s) ⟨s,[],[]⟩)[lb d.files s].vol=[]:=by simp[Wb,hp]
   refine Qd rfl rfl (v14 _ 3 5 d.files (lb d.files s) ⟨s,[],[]⟩ rfl rfl (by decide) hp (by omega)) rfl ?_;rintro _ _ ⟨rfl,G,rfl⟩;rw[<-zf];simp;repeat(refine s_ ?_;simp)
   refine R7 tOk mixed [13] [0,1,2,3,4,5,6,7,8,9,10,11,12,13] rfl (by kernel_rfl) ?_;simp[z8,zc];refine pcL (hg _ (.inl zg)) ?_;simp[z8,zc];repeat(refine s_ ?_;simp)
   have za:Uz (Yq d s) (lb d.files s) g=(Wb d.files (lb d.files s) ⟨s,[],[]⟩).set (lb d.files s) { (Wb d.files (lb d.files s) ⟨s,[],[]⟩)[lb d.files s]with vol:=g (Wb d.files (lb d.files s) ⟨s,[],[]⟩)[lb d.files s].vol }:=by rw[z1,Uz,zG z8]
   have zd:((Wb d.files (lb d.files s) ⟨s,[],[]⟩).set (lb d.files s) { (Wb d.files (lb d.files s) ⟨s,[],[]⟩)[lb d.files s]with vol:=g (Wb d.files (lb d.files s) ⟨s,[],[]⟩)[lb d.files s].vol }).length=(Wb d.files (lb d.files s) ⟨s,[],[]⟩).length:=by simp
   have zb:((Wb d.files (lb d.files s) ⟨s,[],[]⟩).map encFl).set (lb d.files s) (.agg [.str (Wb d.files (lb d.files s) ⟨s,[],[]⟩)[lb d.files s].name,.str (Wb d.files (lb d.files s) ⟨s,[],[]⟩)[lb d.files s].dur,.str (g (Wb d.files (lb d.files s) ⟨s,[],[]⟩)[lb d.files s].vol)])=((Wb d.files (lb d.files s) ⟨s,[],[]⟩).set (lb d.files s) { (Wb d.files (lb d.files s) ⟨s,[],[]⟩)[lb d.files s]with vol:=g (Wb d.files (lb d.files s) ⟨s,[],[]⟩)[lb d.files s].vol }).map encFl:=by rw[xw];rfl
   rw[zb];refine Qo (sl':=[(6,.vptr 1 0),(7,.i 0),(9,.vptr 4 0),(60,.bool (decide ((256:Int)<(Wb d.files (lb d.files s) ⟨s,[],[]⟩).length)))]) ?_ (by simp);generalize (Wb d.files (lb d.files s) ⟨s,[],[]⟩).set (lb d.files s) { (Wb d.files (lb d.files s) ⟨s,[],[]⟩)[lb d.files s]with vol:=g (Wb d.files (lb d.files s) ⟨s,[],[]⟩)[lb d.files s].vol }=N at za zd;rw[<-zd];refine Qb rfl (λh=>?_) (λh2=>?_)
   ·repeat(refine s_ ?_;simp)
    simp at h;simp[Wl,h1,za,C5,h,W7]
   simp at h2;repeat(refine s_ ?_;simp)
   refine Wf rfl rfl (by first|(simp[Qj];done)|(simp[Qj];rfl)) (Lx N) rfl ?_;rintro _ rfl;refine⟨by first|simp|rfl|trivial,?_⟩;simp[Qj];repeat(refine s_ ?_;simp)
   refine Qb rfl (λh=>?_) (λh3=>?_)
   ·repeat(refine s_ ?_;simp)
    simp at h;rw[Wl,if_pos h1,za,C5,if_neg (by omega),if_pos h];simp[W7]
   simp at h3;repeat(refine s_ ?_;simp[Qj])
   rw[Wl,if_pos h1,za,C5,if_neg (by omega),if_neg (by omega)];simp[Qj]
  simp at hf;have z8:lb d.files s<d.files.length:=W8 hf;have z1:Yq d s=d.files:=by rw[Yq,if_pos hf]
  have zc:(d.files.map encFl)[lb d.files s]?=some (encFl d.files[lb d.files s]):=by simp[z8]
  repeat(refine s_ ?_;simp)
  refine R7 tOk mixed [13] [0,1,2,3,4,5,6,7,8,9,10,11,12,13] rfl (by kernel_rfl) ?_;simp[z8,zc];refine pcL (hg _ (.inr ⟨_,yB z8,rfl⟩)) ?_;simp[z8,zc];repeat(refine s_ ?_;simp)
  have za:Uz (Yq d s) (lb d.files s) g=d.files.set (lb d.files s) { d.files[lb d.files s]with vol:=g d.files[lb d.files s].vol }:=by rw[z1,Uz,zG z8]
  have zd:(d.files.set (lb d.files s) { d.files[lb d.files s]with vol:=g d.files[lb d.files s].vol }).length=d.files.length:=by simp
  have zb:(d.files.map encFl).set (lb d.files s) (.agg [.str d.files[lb d.files s].name,.str d.files[lb d.files s].dur,.str (g d.files[lb d.files s].vol)])=(d.files.set (lb d.files s) { d.files[lb d.files s]with vol:=g d.files[lb d.files s].vol }).map encFl:=by rw[xw];rfl
  rw[zb];refine Qo (sl':=[(6,.vptr 1 0),(7,.i 0),(9,.vptr 4 0),(60,.bool (decide ((256:Int)<d.files.length)))]) ?_ (by simp);generalize d.files.set (lb d.files s) { d.files[lb d.files s]with vol:=g d.files[lb d.files s].vol }=N at za zd;rw[<-zd];refine Qb rfl (λh=>?_) (λh2=>?_)
  ·repeat(refine s_ ?_;simp)
   simp at h;simp[Wl,h1,za,C5,h,W7]
  simp at h2;repeat(refine s_ ?_;simp)
  refine Wf rfl rfl (by first|(simp[Qj];done)|(simp[Qj];rfl)) (Lx N) rfl ?_;rintro _ rfl;refine⟨by first|simp|rfl|trivial,?_⟩;simp[Qj];repeat(refine s_ ?_;simp)
  refine Qb rfl (λh=>?_) (λh3=>?_)
  ·repeat(refine s_ ?_;simp)
   simp at h;rw[Wl,if_pos h1,za,C5,if_neg (by omega),if_pos h];simp[W7]
  simp at h3;repeat(refine s_ ?_;simp[Qj])
  rw[Wl,if_pos h1,za,C5,if_neg (by omega),if_neg (by omega)];simp[Qj]
 refine Tg rfl rfl (by simp) (y15 d.files (by omega)) rfl ?_;rintro _ rfl;simp;refine y07 (sl':=[(1,.str s),(2,.fn (.func f) [] [.iptr [.str b]]),(3,.vptr 0 0),(6,.vptr 1 0),(7,.i 0),(9,.vptr 4 0)]) (H':=[.vars [.list (d.files.map encFl),.i d.space],.vars [.nils,.i 0],.arr 9 1 [.str s],.arr 155 3 (d.files.map encFl),.vars [.sl 3 3 0 d.files.length,.i d.space]]) [0,1,2,4,3] ?_ (by simp) (by decide) (by simp) (by simp) (by simp) (by simp) (by simp);repeat(refine s_ ?_;simp)
 refine pcL (v0f d s (by omega) zh) ?_;simp;repeat(refine s_ ?_;simp)
 refine Qb rfl (λze=>?_) (λhf=>?_)
 ·simp at ze;repeat(refine s_ ?_;simp)
  have zf:=Ia d.files (lb d.files s) ⟨s,[],[]⟩ hp;have z8:lb d.files s<(Wb d.files (lb d.files s) ⟨s,[],[]⟩).length:=by omega
  have z1:Yq d s=Wb d.files (lb d.files s) ⟨s,[],[]⟩:=by rw[Yq,if_neg (by simp[ze])]
  have zc:((Wb d.files (lb d.files s) ⟨s,[],[]⟩).map encFl)[lb d.files s]?=some (encFl (Wb d.files (lb d.files s) ⟨s,[],[]⟩)[lb d.files s]):=by simp[z8]
  have zg:(Wb d.files (lb d.files s) ⟨s,[],[]⟩)[lb d.files s].vol=[]:=by simp[Wb,hp]
  refine Qd rfl rfl (v14 _ 3 5 d.files (lb d.files s) ⟨s,[],[]⟩ rfl rfl (by decide) hp (by omega)) rfl ?_;rintro _ _ ⟨rfl,G,rfl⟩;rw[<-zf];simp;repeat(refine s_ ?_;simp)
  refine R7 tOk mixed [13] [0,1,2,3,4,5,6,7,8,9,10,11,12,13] rfl (by kernel_rfl) ?_;simp[z8,zc];refine pcL (hg _ (.inl zg)) ?_;simp[z8,zc];repeat(refine s_ ?_;simp)
  have za:Uz (Yq d s) (lb d.files s) g=(Wb d.files (lb d.files s) ⟨s,[],[]⟩).set (lb d.files s) { (Wb d.files (lb d.files s) ⟨s,[],[]⟩)[lb d.files s]with vol:=g (Wb d.files (lb d.files s) ⟨s,[],[]⟩)[lb d.files s].vol }:=by rw[z1,Uz,zG z8]
  have zd:((Wb d.files (lb d.files s) ⟨s,[],[]⟩).set (lb d.files s) { (Wb d.files (lb d.files s) ⟨s,[],[]⟩)[lb d.files s]with vol:=g (Wb d.files (lb d.files s) ⟨s,[],[]⟩)[lb d.files s].vol }).length=(Wb d.files (lb d.files s) ⟨s,[],[]⟩).length:=by simp
  have zb:((Wb d.files (lb d.files s) ⟨s,[],[]⟩).map encFl).set (lb d.files s) (.agg [.str (Wb d.files (lb d.files s) ⟨s,[],[]⟩)[lb d.files s].name,.str (Wb d.files (lb d.files s) ⟨s,[],[]⟩)[lb d.files s].dur,.str (g (Wb d.files (lb d.files s) ⟨s,[],[]⟩)[lb d.files s].vol)])=((Wb d.files (lb d.files s) ⟨s,[],[]⟩).set (lb d.files s) { (Wb d.files (lb d.files s) ⟨s,[],[]⟩)[lb d.files s]with vol:=g (Wb d.files (lb d.files s) ⟨s,[],[]⟩)[lb d.files s].vol }).map encFl:=by rw[xw];rfl
  rw[zb];refine Qo (sl':=[(6,.vptr 1 0),(7,.i 0),(9,.vptr 4 0),(60,.bool (decide ((256:Int)<(Wb d.files (lb d.files s) ⟨s,[],[]⟩).length)))]) ?_ (by simp);generalize (Wb d.files (lb d.files s) ⟨s,[],[]⟩).set (lb d.files s) { (Wb d.files (lb d.files s) ⟨s,[],[]⟩)[lb d.files s]with vol:=g (Wb d.files (lb d.files s) ⟨s,[],[]⟩)[lb d.files s].vol }=N at za zd;rw[<-zd];refine Qb rfl (λh=>?_) (λh2=>?_)
  ·repeat(refine s_ ?_;simp)
   simp at h;simp[Wl,h1,za,C5,h,W7]
  simp at h2;repeat(refine s_ ?_;simp)
  refine Wf rfl rfl (by first|(simp[Qj];done)|(simp[Qj];rfl)) (Lx N) rfl ?_;rintro _ rfl;refine⟨by first|simp|rfl|trivial,?_⟩;simp[Qj];repeat(refine s_ ?_;simp)
  refine Qb rfl (λh=>?_) (λh3=>?_)
  ·repeat(refine s_ ?_;simp)
   simp at h;rw[Wl,if_pos h1,za,C5,if_neg (by omega),if_pos h];simp[W7]
  simp at h3;repeat(refine s_ ?_;simp[Qj])
  rw[Wl,if_pos h1,za,C5,if_neg (by omega),if_neg (by omega)];simp[Qj]
 simp at hf;have z8:lb d.files s<d.files.length:=W8 hf;have z1:Yq d s=d.files:=by rw[Yq,if_pos hf]
 have zc:(d.files.map encFl)[lb d.files s]?=some (encFl d.files[lb d.files s]):=by simp[z8]
 repeat(refine s_ ?_;simp)
 refine R7 tOk mixed [13] [0,1,2,3,4,5,6,7,8,9,10,11,12,13] rfl (by kernel_rfl) ?_;simp[z8,zc];refine pcL (hg _ (.inr ⟨_,yB z8,rfl⟩)) ?_;simp[z8,zc];repeat(refine s_ ?_;simp)
 have za:Uz (Yq d s) (lb d.files s) g=d.files.set (lb d.files s) { d.files[lb d.files s]with vol:=g d.files[lb d.files s].vol }:=by rw[z1,Uz,zG z8]
 have zd:(d.files.set (lb d.files s) { d.files[lb d.files s]with vol:=g d.files[lb d.files s].vol }).length=d.files.length:=by simp
 have zb:(d.files.map encFl).set (lb d.files s) (.agg [.str d.files[lb d.files s].name,.str d.files[lb d.files s].dur,.str (g d.files[lb d.files s].vol)])=(d.files.set (lb d.files s) { d.files[lb d.files s]with vol:=g d.files[lb d.files s].vol }).map encFl:=by rw[xw];rfl
 rw[zb];refine Qo (sl':=[(6,.vptr 1 0),(7,.i 0),(9,.vptr 4 0),(60,.bool (decide ((256:Int)<d.files.length)))]) ?_ (by simp);generalize d.files.set (lb d.files s) { d.files[lb d.files s]with vol:=g d.files[lb d.files s].vol }=N at za zd;rw[<-zd];refine Qb rfl (λh=>?_) (λh2=>?_)
 ·repeat(refine s_ ?_;simp)
  simp at h;simp[Wl,h1,za,C5,h,W7]
 simp at h2;repeat(refine s_ ?_;simp)
 refine Wf rfl rfl (by first|(simp[Qj];done)|(simp[Qj];rfl)) (Lx N) rfl ?_;rintro _ rfl;refine⟨by first|simp|rfl|trivial,?_⟩;simp[Qj];repeat(refine s_ ?_;simp)
 refine Qb rfl (λh=>?_) (λh3=>?_)
 ·repeat(refine s_ ?_;simp)
  simp at h;rw[Wl,if_pos h1,za,C5,if_neg (by omega),if_pos h];simp[W7]
 simp at h3;repeat(refine s_ ?_;simp[Qj])
 rw[Wl,if_pos h1,za,C5,if_neg (by omega),if_neg (by omega)];simp[Qj]
end
section
open Go Go.Proofs
def wrG(b:List UInt8)(_:List UInt8):List UInt8:=b
def u1t(d:Disk)(s b:List UInt8):PC prog 66 [encD d,.str s,.str b] (λr=>r= .tup [encD (Wl d s (wrG b)).1,.i (Wl d s (wrG b)).2]):=by
 refine pcB func66 results66 ntmps66 ?_;simp only[Qf];simp only[encD];repeat(refine s_ ?_;simp)
 refine Je 1 (xs:=[.str b]) (ys:=[.str b]) (by simp) rfl ?_;simp;refine pcL (u1h 102 b (wrG b) d s (λv _=>u1f v b)) ?_;simp;repeat(refine s_ ?_;simp)
def f0o(fs:List File)(space:Int):Disk×Int:=if space<W (A0 fs)then(W7,27)else(⟨fs,space⟩,0)
def Gc(fs:List File)(p:Nat):List File:=match fs[p]? with
 |some f=>fs.set p { f with dur:=f.vol }
 |none=>fs
def Tj(d:Disk)(s:List UInt8):Disk×Int:=if Tu d s=0 then(match findF d.files s 0 with
 |none=>(W7,6)
 |some i=>f0o (Gc d.files i) d.space)else(W7,Tu d s)
def u1n(d:Disk)(s:List UInt8):PC prog 70 [encD d,.str s] (λr=>r= .tup [encD (Tj d s).1,.i (Tj d s).2]):=by
 refine pcB func70 results70 ntmps70 ?_;simp only[Qf];simp only[encD];repeat(refine s_ ?_;simp)
 refine Wf rfl rfl (by first|(simp;done)|(simp;rfl)) (c0k d [s]) rfl ?_;rintro _ rfl;refine⟨by first|simp|rfl|trivial,?_⟩;simp;repeat(refine s_ ?_;simp)
 rw[A3];refine Qb rfl (λh=>?_) (λh1=>?_)
 ·repeat(refine s_ ?_;simp)
  simp at h;simp[Tj,h,W7]
 simp at h1;have hc:=Ys h1;have hl:=T7 hc;have zc:=Rs hc;have hp:=A1 d s zc;repeat(refine s_ ?_;simp)
 refine pcL (v0f d s (by omega) zc) ?_;simp;repeat(refine s_ ?_;simp)
 cases hf:foundAt d.files s (lb d.files s)
 ·rw[hf]at hp;simp at hp;refine Qh rfl ?_;repeat(refine s_ ?_;simp)
  simp[Tj,h1,hp,W7]
 rw[hf]at hp;have za:findF d.files s 0=some (lb d.files s):=by simpa using hp
 have hi:=B0 za;refine Qh rfl ?_;repeat(refine s_ ?_;simp)
 refine Qw tOk mixed [7] (.val 0 (.val 1 (.val 3 (.val 4 (.two 2 (.val 5 (.one 6 (.one 7 .done))) 6 (.one 2 (.one 5 (.one 7 .done)))))))) rfl (by kernel_rfl) ?_;simp;refine⟨?_,?_⟩
 ·refine Tg rfl rfl (by simp) (y15 d.files (by omega)) rfl ?_;rintro _ rfl;simp;refine Qo (sl':=[(4,.vptr 1 0),(5,.i 0),(7,.i (lb d.files s)),(9,.vptr 4 0)]) ?_ (by simp);repeat(refine s_ ?_;simp)
  refine R7 tOk mixed [11] [0,1,2,3,4,5,6,7,8,9,10,11] rfl (by kernel_rfl) ?_;simp[hi];have z1:Gc d.files (lb d.files s)=d.files.set (lb d.files s) { d.files[lb d.files s]with dur:=d.files[lb d.files s].vol }:=by rw[Gc,zG hi]
  have z8:(d.files.map encFl).set (lb d.files s) (.agg [.str d.files[lb d.files s].name,.str d.files[lb d.files s].vol,.str d.files[lb d.files s].vol])=(d.files.set (lb d.files s) { d.files[lb d.files s]with dur:=d.files[lb d.files s].vol }).map encFl:=by rw[xw];rfl
  have zb:(d.files.set (lb d.files s) { d.files[lb d.files s]with dur:=d.files[lb d.files s].vol }).length=d.files.length:=by simp
  rw[z8];refine Qo (sl':=[(4,.vptr 1 0),(5,.i 0),(9,.vptr 4 0)]) ?_ (by simp);generalize d.files.set (lb d.files s) { d.files[lb d.files s]with dur:=d.files[lb d.files s].vol }=N at z1 zb;rw[<-zb];repeat(refine s_ ?_;simp)
  refine Wf rfl rfl (by first|(simp[Qj];done)|(simp[Qj];rfl)) (Lx N) rfl ?_;rintro _ rfl;refine⟨by first|simp|rfl|trivial,?_⟩;simp[Qj];repeat(refine s_ ?_;simp)
  refine Qb rfl (λh=>?_) (λh3=>?_)
  ·repeat(refine s_ ?_;simp)
   simp at h;simp only[Tj,if_pos h1,za,z1];rw[f0o,if_pos h];simp[W7]
  simp at h3;repeat(refine s_ ?_;simp[Qj])
  simp only[Tj,if_pos h1,za,z1];rw[f0o,if_neg (by omega)];simp[Qj]
 refine Tg rfl rfl (by simp) (y15 d.files (by omega)) rfl ?_;rintro _ rfl;simp;refine y07 (sl':=[(4,.vptr 1 0),(5,.i 0),(7,.i (lb d.files s)),(9,.vptr 4 0)]) (H':=[.vars [.list (d.files.map encFl),.i d.space],.vars [.nils,.i 0],.arr 9 1 [.str s],.arr 155 3 (d.files.map encFl),.vars [.sl 3 3 0 d.files.length,.i d.space]]) [0,1,2,4,3] ?_ (by simp) (by decide) (by simp) (by simp) (by simp) (by simp) (by simp);repeat(refine s_ ?_;simp)
 refine R7 tOk mixed [11] [0,1,2,3,4,5,6,7,8,9,10,11] rfl (by kernel_rfl) ?_;simp[hi];have z1:Gc d.files (lb d.files s)=d.files.set (lb d.files s) { d.files[lb d.files s]with dur:=d.files[lb d.files s].vol }:=by rw[Gc,zG hi]
 have z8:(d.files.map encFl).set (lb d.files s) (.agg [.str d.files[lb d.files s].name,.str d.files[lb d.files s].vol,.str d.files[lb d.files s].vol])=(d.files.set (lb d.files s) { d.files[lb d.files s]with dur:=d.files[lb d.files s].vol }).map encFl:=by rw[xw];rfl
 have zb:(d.files.set (lb d.files s) { d.files[lb d.files s]with dur:=d.files[lb d.files s].vol }).length=d.files.length:=by simp
 rw[z8];refine Qo (sl':=[(4,.vptr 1 0),(5,.i 0),(9,.vptr 4 0)]) ?_ (by simp);generalize d.files.set (lb d.files s) { d.files[lb d.files s]with dur:=d.files[lb d.files s].vol }=N at z1 zb;rw[<-zb];repeat(refine s_ ?_;simp)
 refine Wf rfl rfl (by first|(simp[Qj];done)|(simp[Qj];rfl)) (Lx N) rfl ?_;rintro _ rfl;refine⟨by first|simp|rfl|trivial,?_⟩;simp[Qj];repeat(refine s_ ?_;simp)
 refine Qb rfl (λh=>?_) (λh3=>?_)
 ·repeat(refine s_ ?_;simp)
  simp at h;simp only[Tj,if_pos h1,za,z1];rw[f0o,if_pos h];simp[W7]
 simp at h3;repeat(refine s_ ?_;simp[Qj])
 simp only[Tj,if_pos h1,za,z1];rw[f0o,if_neg (by omega)];simp[Qj]
end
section
open Go Go.Proofs
def Xw(s t:List UInt8)(f:File):Bool:=f.name != s && f.name != t
def Rg(d:Disk)(s t:List UInt8):Disk×Int:=if Tc d [s,t]=0 then(match findF d.files s 0 with
 |none=>(W7,6)
 |some i=>(⟨Wb (d.files.filter (Xw s t)) (lb (d.files.filter (Xw s t)) t) { d.files[i]! with name:=t },d.space⟩,0))else(W7,Tc d [s,t])
def Ga{d:Disk}{l:List (List UInt8)}(h:Tc d l=0):Wc d=0:=by
 unfold Tc at h;split at h
 ·assumption
 exact h
def Wq.filter{fs:List File}(h:Wq fs)(p:File->Bool):Wq (fs.filter p):=List.Pairwise.filter _ h
def u1w(d:Disk)(s t:List UInt8):PC prog 72 [encD d,.str s,.str t] (λr=>r= .tup [encD (Rg d s t).1,.i (Rg d s t).2]):=by
 refine pcB func72 results72 ntmps72 ?_;simp only[Qf];simp only[encD];repeat(refine s_ ?_;simp)
 refine Wf rfl rfl (by first|(simp;done)|(simp;rfl)) (c0k d [s,t]) rfl ?_;rintro _ rfl;refine⟨by first|simp|rfl|trivial,?_⟩;simp;repeat(refine s_ ?_;simp)
 refine Qb rfl (λh=>?_) (λh1=>?_)
 ·repeat(refine s_ ?_;simp)
  simp at h;simp[Rg,h,W7]
 simp at h1;have hc:=Ga h1;have hl:=T7 hc;have za:=Rs hc;have hp:=A1 d s za;repeat(refine s_ ?_;simp)
 refine pcL (v0f d s (by omega) za) ?_;simp;repeat(refine s_ ?_;simp)
 cases hf:foundAt d.files s (lb d.files s)
 ·rw[hf]at hp;simp at hp;refine Qh rfl ?_;repeat(refine s_ ?_;simp)
  simp[Rg,h1,hp,W7]
 rw[hf]at hp;have zc:findF d.files s 0=some (lb d.files s):=by simpa using hp
 have hi:=B0 zc;refine Qh rfl ?_;repeat(refine s_ ?_;simp[hi])
 refine Iw 4 0 155 3 rfl rfl ?_;simp;refine Ib d.files.length (λj=>[(1,.str s),(2,.str t),(6,.vptr 1 0),(11,.vptr 3 0),(12,.vptr 4 0),(46,.list (d.files.map encFl)),(47,.i d.files.length),(48,.i j)]) (λj=>[.vars [.list (d.files.map encFl),.i d.space],.vars [.nils,.i 0],.arr 9 1 [.str s,.str t],.vars [.str t,.str d.files[lb d.files s].dur,.str d.files[lb d.files s].vol],.vars [.sl 5 3 0 ((d.files.take j).filter (Xw s t)).length,.i d.space],.arr 155 3 (((d.files.take j).filter (Xw s t)).map encFl)]) rfl (by simp) (by simp) (by simp) (by simp) ?_;intro j hj ih;have zd:((d.files.take j).filter (Xw s t)).length<=j:=by have:=List.length_filter_le (Xw s t) (d.files.take j);rw[vw]at this;omega
 repeat(refine s_ ?_;simp)
 refine Qb rfl (λze=>?_) (λzf=>?_)
 ·have z1:j<d.files.length:=by simpa using ze
  have z8:=Sl d.files (Xw s t) j z1;repeat(refine s_ ?_;simp[z1])
  refine Qb rfl (λh=>?_) (λh=>?_)
  ·repeat(refine s_ ?_;simp)
   refine apS T37 q08 ?_;simp;refine⟨by simp[Em]<;>omega,?_⟩;repeat(refine s_ ?_;simp)
   have h':Xw s t d.files[j]=true:=h;rw[if_pos h']at z8;refine Z5 [0,1,2,3,4,8] (ih z1) (by rw[z8];simp) (by decide) (by simp) (by simp) (by simp) (by simp) ?_;simp;exact wrap_i64 _ (by omega) (by omega)
  repeat(refine s_ ?_;simp)
  have h':Xw s t d.files[j]=false:=h;rw[if_neg (by rw[h'];simp),xY]at z8;refine Q8 _ (ih z1) (by rw[z8];simp;rfl) (by simp) ?_ (by simp) (by simp);simp;exact wrap_i64 _ (by omega) (by omega)
 have zb:j=d.files.length:=by simp at zf;omega
 subst zb;rw[yV]at zd |-;repeat(refine s_ ?_;simp)
 refine Wf rfl rfl (by first|(simp[Qj];done)|(simp[Qj];rfl)) (v0f ⟨d.files.filter (Xw s t),d.space⟩ t (by simp only;omega) (za.filter _)) rfl ?_;rintro _ rfl;refine⟨by first|simp|rfl|trivial,?_⟩;simp[Qj];repeat(refine s_ ?_;simp)
 refine Qd rfl rfl (v14 _ 5 6 (d.files.filter (Xw s t)) (lb (d.files.filter (Xw s t)) t) ⟨t,d.files[lb d.files s].dur,d.files[lb d.files s].vol⟩ rfl rfl (by decide) (Xs _ _) (by omega)) rfl ?_;rintro _ _ ⟨rfl,G,rfl⟩;rw[<-Ia (d.files.filter (Xw s t)) (lb (d.files.filter (Xw s t)) t) ⟨t,d.files[lb d.files s].dur,d.files[lb d.files s].vol⟩ (Xs _ _)];simp;repeat(refine s_ ?_;simp)
 simp[Rg,h1,zc,hi,Qj]
def v1o(s t:List UInt8)(hs:s.length<=9223372036854775807)(ht:t.length<=9223372036854775807):PC prog 208 [.str s,.str t] (λr=>r= .bool (t.isPrefixOf s)):=by
 refine pcB func208 results208 ntmps208 ?_;simp only[Qf];by_cases h:t.length<=s.length
 ·have h2:¬s.length<t.length:=by omega
  repeat(refine s_ ?_;simp[h,h2])
  rw[ut];simp[List.prefix_iff_eq_take];exact eq_comm
 have h2:s.length<t.length:=by omega
 repeat(refine s_ ?_;simp[h,h2])
 rw[<-Bool.not_eq_true,xh];intro hp;have:=hp.length_le;omega
end
section
open Go Go.Proofs
def exA:Disk:=⟨[⟨[102],[],[97,98,99]⟩],10⟩
def exB:Disk:=⟨[⟨[102],[97,98,99],[97,98,99]⟩],10⟩
def exC:Disk:=⟨[⟨[102],[97,98,99],[97,98,99,100,101]⟩],10⟩
attribute [simp] exA exB exC
@[simp] theorem range2:([0,1]=xV 2)=True:=by decide
@[simp] theorem range3:([0,1,2]=xV 3)=True:=by decide
def exD(v:List UInt8):Disk:=⟨[⟨[102],v,v⟩],10⟩
attribute [simp] exD
end
section
open Go Go.Proofs
end
section
open Go Go.Proofs
def Ds(f:File)(s:List UInt8):Ep f s= !Y6 s f.name:=by
 unfold Ep;cases h:Op.bytesLess f.name s
 ·cases h2:Y6 s f.name
  ·have:=Di h2;rw[h]at this;cases this
  rfl
 cases h2:Y6 s f.name
 ·rfl
 unfold Y6 at h2;simp only[yE,beq_iff_eq]at h2;rcases h2 with h2|rfl
 ·have:=Td _ _ _ h h2;rw[Ea]at this;cases this
 rw[Ea]at h;cases h
def Pu(f:File):∀(fs out:List File),fs.foldl (Tl f) (true,out)=(true,out++fs.filter (λg=>g.name != f.name))
 |[],out=>by simp
 |g::fs,out=>by
  rw[xK];cases h:g.name != f.name
  ·have:Tl f (true,out) g=(true,out):=by simp only[Tl,h];simp
   rw[this,Pu f fs out,wJ (by simp[h])]
  have:Tl f (true,out) g=(true,out++[g]):=by simp only[Tl,h];simp
  rw[this,Pu f fs _,vG (by simp[h])];simp
def v1b(f:File)(r:Bool×List File):List File:=if r.1=true then r.2 else r.2++[f]
def Kp(f:File)(l:List File):v1b f (true,l)=l:=rfl
def Gr(f:File):∀(fs out:List File),v1b f (fs.foldl (Tl f) (false,out))=
  out++fs.takeWhile (Ep · f.name)++f::(fs.dropWhile (Ep · f.name)).filter (λg=>g.name != f.name)
 |[],out=>by simp[v1b]
 |g::fs,out=>by
  simp only[xK,xj,xI];cases h:Ep g f.name
  ·have hle:Y6 f.name g.name=true:=by rw[Ds]at h;simpa using h
   cases hn:g.name != f.name
   ·have:Tl f (false,out) g=(true,out++[f]):=by simp[Tl,hle,hn]
    rw[this,Pu,Kp];simp[wu,hn]
   have:Tl f (false,out) g=(true,out++[f]++[g]):=by simp[Tl,hle,hn]
   rw[this,Pu,Kp];simp[wu,hn]
  have hle:Y6 f.name g.name=false:=by rw[Ds]at h;simpa using h
  have hn:(g.name != f.name)=true:=by simp only[bne_iff_ne,ne_eq];intro e;rw[e]at hle;simp[Y6]at hle
  have:Tl f (false,out) g=(false,out++[g]):=by simp[Tl,hle,hn]
  rw[this,Gr f fs (out++[g])];simp
def x0r(d:Disk)(f:File):q1a d f=⟨d.files.takeWhile (Ep · f.name)++f::(d.files.dropWhile (Ep · f.name)).filter (λg=>g.name != f.name),d.space⟩:=by have:=Gr f d.files [];simp only[wo]at this;rw[<-this];rfl
def Ak(fs:List File)(s:List UInt8):fs.takeWhile (Ep · s)=fs.take (lb fs s):=by
 unfold lb;induction fs with
 |nil=>rfl
 |cons g fs ih=>
  rw[xj];split
  ·rw[yQ,List.take_succ_cons,<-ih]
  rfl
def Ve(fs:List File)(s:List UInt8):fs.dropWhile (Ep · s)=fs.drop (lb fs s):=by
 unfold lb;induction fs with
 |nil=>rfl
 |cons g fs ih=>
  rw[xI,xj];split
  ·rw[yQ,List.drop_succ_cons,<-ih]
  rfl
def Wq.drop{fs:List File}(h:Wq fs)(n:Nat):Wq (fs.drop n):=List.Pairwise.sublist (List.drop_sublist n fs) h
def Vc{fs:List File}{s:List UInt8}(h:lb fs s<fs.length):Ep fs[lb fs s] s=false:=by
 unfold lb at h |-;induction fs with
 |nil=>simp at h
 |cons g fs ih=>
  by_cases hg:Ep g s=true
  ·simp only[xj,hg,if_true,yQ,vK];exact ih (by simpa[xj,hg]using h)
  simp only[xj,hg,wF,if_false,wH,wV]
def C3{fs:List File}(hs:Wq fs){s:List UInt8}(h:lb fs s<fs.length):∀g∈fs.drop (lb fs s+1),Op.bytesLess s g.name=true:=λg hg=>by
 have h1:Op.bytesLess fs[lb fs s].name g.name=true:=by have hd:=hs.drop (lb fs s);rw[yU h]at hd;exact(xO.1 hd).1 g hg
 have h2:=Vc h;rw[Ds]at h2;simp only[Bool.not_eq_false',Y6,yE,beq_iff_eq]at h2;rcases h2 with h2|h2
 ·exact Td _ _ _ h2 h1
 rw[h2];exact h1
def j0k{a b:List UInt8}(h:Op.bytesLess a b=true):b≠a:=λe=>by rw[e,Ea]at h;cases h
def z0n{α:Type}{p:α->Bool}{l:List α}{x:α}(h:x∈l.takeWhile p):p x=true:=by
 induction l with
 |nil=>cases h
 |cons a l ih=>
  rw[xj]at h;split at h
  ·rcases y_.1 h with rfl|h
   ·assumption
   exact ih h
  cases h
def y06(fs:List File)(s:List UInt8):∀g∈fs.take (lb fs s),g.name≠s:=λg hg=>by rw[<-Ak]at hg;have:=z0n hg;intro e;simp only[Ep,e,Ea]at this;cases this
def Om{fs:List File}(hs:Wq fs)(s:List UInt8):(fs.drop (lb fs s)).filter (λg=>g.name != s)=if foundAt fs s (lb fs s)=true then fs.drop (lb fs s+1)else fs.drop (lb fs s):=by
 rcases wa (lb fs s) fs.length with h|h
 ·rw[yU h,Ei _ _ _ h];have hf:(fs.drop (lb fs s+1)).filter (λg=>g.name != s)=fs.drop (lb fs s+1):=vc.2 λg hg=>by have:=j0k (C3 hs h g hg);simpa using this
  cases hn:fs[lb fs s].name==s
  ·rw[vG (by simpa using hn),hf,if_neg (by simp)]
  rw[wJ (by simpa using hn),hf,if_pos rfl]
 rw[xE h];have:foundAt fs s (lb fs s)=false:=by
  cases hf:foundAt fs s (lb fs s)
  ·rfl
  have:=W8 hf;omega
 rw[this];rfl
def Up{d:Disk}(hs:Wq d.files)(f:File):q1a d f=⟨if foundAt d.files f.name (lb d.files f.name)=true then d.files.set (lb d.files f.name) f else Wb d.files (lb d.files f.name) f,d.space⟩:=by
 rw[x0r,Ak,Ve,Om hs]
 congr 1
 split
 ·rename_i h;rw[wh,if_pos (W8 h)]
 rfl
def u0u(fs:List File)(i:Nat)(f:File)(h:i<fs.length)(e:f.dur=fs[i].dur):A0 (fs.set i f)=A0 fs:=by
 have:(fs.set i f).map (·.dur.length)=fs.map (·.dur.length):=by rw[xw,e,<-ui (λf:File=>f.dur.length) (h:=by simpa using h)];exact vP _
 simp only[A0,this]
def u08(fs:List File)(i:Nat)(f:File)(h:i<fs.length)(e:f.vol=fs[i].vol):Aw (fs.set i f)=Aw fs:=by
 have:(fs.set i f).map (·.vol.length)=fs.map (·.vol.length):=by rw[xw,e,<-ui (λf:File=>f.vol.length) (h:=by simpa using h)];exact vP _
 simp only[Aw,this]
def j0h(fs:List File)(i:Nat)(f:File)(e:f.dur=[]):A0 (Wb fs i f)=A0 fs:=by
 have h:A0 fs=A0 (fs.take i++fs.drop i):=by rw[yN]
 rw[h];simp only[A0,Wb,xG,z_,vn,xH,e,wH,yW]
def Ux{d:Disk}(h:Wc d=0):¬d.space<W (Aw d.files)/\¬d.space<W (A0 d.files):=by
 unfold Wc at h;split at h
 ·cases h
 split at h
 ·cases h
 split at h
 ·split at h
  ·cases h
  rename_i ho;simpa[Ff]using ho
 rename_i h1;exact absurd h h1
def z0l(L:List File)(space:Int)(h:¬space<W (A0 L)):C5 L space=Lv ⟨L,space⟩:=by unfold C5 Lv;simp[Ff,h]
def Hf{d:Disk}(hs:Wq d.files)(s:List UInt8):Kj d s=if foundAt d.files s (lb d.files s)=true then(d.files[lb d.files s]?.getD ⟨s,[],[]⟩)else⟨s,[],[]⟩:=by
 rw[Kj,A1 d s hs];split
 ·rename_i h;split at h
  ·cases h
  rename_i h2;rw[if_neg h2]
 rename_i i h;split at h
 ·rename_i h2;rw[if_pos h2];cases h;rfl
 cases h
def D7(d:Disk)(s:List UInt8)(g:List UInt8->List UInt8):Wl d s g=if Tu d s=0 then Lv (q1a d { Kj d s with vol:=g (Kj d s).vol })else(W7,Tu d s):=by
 unfold Wl;split
 ·rename_i h;have hc:=Ys h;have hs:=Rs hc;have ho:=Ux hc;have hold:=Hf hs s;by_cases hf:foundAt d.files s (lb d.files s)=true
  ·have z1:=W8 hf;have hn:d.files[lb d.files s].name=s:=by rw[Ei _ _ _ z1]at hf;simpa using hf
   rw[if_pos hf,zG z1,xQ]at hold;rw[hold,Up hs];simp only[hn];rw[if_pos hf,Yq,if_pos hf,Uz,zG z1];simp only;rw[z0l _ _ (by rw[u0u _ _ _ z1 (by rfl)];exact ho.2)];simp only[hn]
  rw[if_neg hf]at hold;rw[hold,Up hs];simp only;rw[if_neg hf,Yq,if_neg hf];have hl:lb d.files s<(Wb d.files (lb d.files s) ⟨s,[],[]⟩).length:=by rw[Ia _ _ _ (Xs _ _)];have:=Xs d.files s;omega
  have z8:Uz (Wb d.files (lb d.files s) ⟨s,[],[]⟩) (lb d.files s) g=Wb d.files (lb d.files s) ⟨s,[],g []⟩:=by
   have za:(d.files.take (lb d.files s)).length=lb d.files s:=by have:=Xs d.files s;simp;omega
   have hg:(Wb d.files (lb d.files s) ⟨s,[],[]⟩)[lb d.files s]?=some ⟨s,[],[]⟩:=by rw[Wb,zF (by omega),za];simp
   rw[Uz,hg];simp only[Wb];rw[List.set_append_right _ _ (by omega),za];simp
  rw[z8,z0l];rw[j0h _ _ _ rfl];exact ho.2
 rfl
def j02(d:Disk)(s:List UInt8):Tj d s=v06 d s:=by
 unfold Tj v06;split
 ·rename_i h;have hc:=Ys h;have hs:=Rs hc;have ho:=Ux hc;have hlen:=T7 hc;rw[A1 d s hs];by_cases hf:foundAt d.files s (lb d.files s)=true
  ·have z1:=W8 hf;have hn:d.files[lb d.files s].name=s:=by rw[Ei _ _ _ z1]at hf;simpa using hf
   simp only[if_pos hf];rw[Up hs];have hb:d.files[lb d.files s]! =d.files[lb d.files s]:=by simp[z1]
   simp only[hb,hn];rw[if_pos hf,Gc,zG z1];simp only;have hv:=u08 d.files (lb d.files s) { name:=s,dur:=d.files[lb d.files s].vol,vol:=d.files[lb d.files s].vol } z1 rfl;have z8:¬(256:Int)<d.files.length:=by omega
   simp[f0o,Lv,Ff,hv,z8,ho.1,hn]
  simp only[if_neg hf]
 rfl
def w0v{fs:List File}(hs:Wq fs)(t:List UInt8):(fs.filter (λg=>g.name != t)).takeWhile (Ep · t)=fs.takeWhile (Ep · t)/\(fs.filter (λg=>g.name != t)).dropWhile (Ep · t)=(fs.dropWhile (Ep · t)).filter (λg=>g.name != t):=by
 have z1:fs.filter (λg=>g.name != t)=fs.take (lb fs t)++(fs.drop (lb fs t)).filter (λg=>g.name != t):=by
  conv=>lhs;rw[<-yN (lb fs t) fs]
  rw[vf]
  congr 1
  exact vc.2 λg hg=>by simpa using y06 fs t g hg
 have h1:∀g∈fs.take (lb fs t),Ep g t=true:=λg hg=>by rw[<-Ak]at hg;exact z0n (p:=(Ep · t)) hg
 have h2:∀g∈(fs.drop (lb fs t)).filter (λg=>g.name != t),Ep g t=false:=λg hg=>by
  rw[Om hs]at hg;have z8:∀g∈fs.drop (lb fs t),Ep g t=false:=λg hg=>by
   rcases wa (lb fs t) fs.length with h|h
   ·rw[yU h]at hg;rcases y_.1 hg with rfl|hg
    ·exact Vc h
    have:=C3 hs h g hg;cases hl:Ep g t
    ·rfl
    have:=Td _ _ _ hl this;rw[Ea]at this;cases this
   rw[xE h]at hg;cases hg
  split at hg
  ·refine z8 g ?_;rcases wa (lb fs t) fs.length with h|h
   ·rw[yU h];exact xA _ hg
   rw[xE (by omega)]at hg;cases hg
  exact z8 g hg
 have h3:((fs.drop (lb fs t)).filter (λg=>g.name != t)).takeWhile (Ep · t)=[]:=by
  cases hc:(fs.drop (lb fs t)).filter (λg=>g.name != t)with
  |nil=>rfl
  |cons g r=>rw[xj,h2 g (by rw[hc];simp)];rfl
 have h4:((fs.drop (lb fs t)).filter (λg=>g.name != t)).dropWhile (Ep · t)=(fs.drop (lb fs t)).filter (λg=>g.name != t):=by
  cases hc:(fs.drop (lb fs t)).filter (λg=>g.name != t)with
  |nil=>rfl
  |cons g r=>rw[xI,h2 g (by rw[hc];simp)];rfl
 constructor
 ·rw[z1,List.takeWhile_append_of_pos h1,h3,xY,Ak]
 rw[z1,List.dropWhile_append_of_pos h1,h4,Ve]
def Nw(d:Disk)(s t:List UInt8):Rg d s t=Jf d s t:=by
 unfold Rg Jf Tc Tu;by_cases hc:Wc d=0
 ·simp only[if_pos hc];have hs:=Rs hc;by_cases h1:E3 s=true
  ·simp only[if_pos h1];by_cases h2:E3 t=true
   ·simp only[wg,h1,h2,uH,Bool.and_self,if_true];cases hfd:findF d.files s 0 with
    |none=>rfl
    |some i=>
     simp only;rw[x0r];have hF:Wq (Wv d s).files:=hs.filter _;obtain⟨e1,e2⟩:=w0v hF t;have z1:d.files.filter (Xw s t)=(Wv d s).files.filter (λg=>g.name != t):=by
      rw[Wv,List.filter_filter]
      congr 1
      funext g;simp only[Xw];rw[Bool.and_comm]
     simp only[z1,Wb];rw[<-Ak,<-Ve,e1,e2];rfl
   simp[h1,h2]
  simp[h1]
 simp[hc]
end
section
open Go Go.Proofs
def Bz:∀(fs:List File) (s:List UInt8) (k i:Nat) (x:File),fs[i]?=some x->x.name=s->(∀j y,j<i->fs[j]?=some y->y.name≠s)->findF fs s k=some (k+i)
 |[],_,_,_,_,h,_,_=>by simp at h
 |f::fs,s,k,i,x,h,hn,hne=>by
  rcases i with _|i
  ·simp only[xr,Option.some.injEq]at h;subst h;rw[findF,if_pos hn,wy]
  have h0:=hne 0 f (by omega) rfl;rw[findF,if_neg h0,Bz fs s (k+1) i x (by simpa using h) hn (λj y hj hy=>hne (j+1) y (by omega) (by simpa using hy))]
  congr 1;omega
def Li{fs:List File}(hs:Wq fs){i:Nat}{x:File}(h:fs[i]?=some x):findF fs x.name 0=some i:=by
 have:=Bz fs x.name 0 i x h rfl (λj y hj hy e=>by
  obtain⟨hi,rfl⟩:=zD.1 h;obtain⟨z1,rfl⟩:=zD.1 hy;have:=xW.1 hs j i z1 hi hj;rw[e,Ea]at this;cases this)
 simpa using this
def Ud{fs:List File}(hs:Wq fs){x:File}(h:x∈fs):∃i,i<fs.length/\fs[i]?=some x/\findF fs x.name 0=some i:=by obtain⟨i,hi⟩:=xm.1 h;exact⟨i,(zD.1 hi).1,hi,Li hs hi⟩
def x07:∀(fs:List File) (p:Option (List UInt8)),Wq fs->(∀f∈fs,E3 f.name=true)->(∀q,p=some q->∀f∈fs,Op.bytesLess q f.name=true)->Bn p fs=0
 |[],_,_,_,_=>rfl
 |f::fs,p,hs,hn,hp=>by
  rw[Bn,if_neg (by simp[hn f (by simp)]),if_neg ?_]
  ·exact x07 fs (some f.name) (xO.1 hs).2 (λg hg=>hn g (by simp[hg])) (λq hq g hg=>by cases hq;exact(xO.1 hs).1 g hg)
  cases p with
  |none=>simp[An]
  |some q=>
   have h1:=hp q rfl f (by simp);simp only[An,Y6,yE,beq_iff_eq,not_or];refine⟨λh2=>?_,λh2=>?_⟩
   ·have:=Td _ _ _ h1 h2;rw[Ea]at this;cases this
   rw[h2,Ea]at h1;cases h1
structure Good (d:Disk):Prop where
 sp:Zl d.space=false
 len:d.files.length<=256
 sorted:Wq d.files
 names:∀f∈d.files,E3 f.name=true
 vol:¬d.space<W (Aw d.files)
 dur:¬d.space<W (A0 d.files)
def Ew{d:Disk}:Wc d=0↔Good d:=by
 constructor
 ·intro h;have hs:=Ol _ _ (D5 h);refine⟨?_,T7 h,hs.1,hs.2.1,(Ux h).1,(Ux h).2⟩;unfold Wc at h;split at h
  ·cases h
  rename_i hb;simpa using hb
 intro h;unfold Wc;rw[h.sp,if_neg (by simp),if_neg (by have:=h.len;omega),if_pos (x07 _ _ h.sorted h.names (by simp)),Ff];simp[h.vol,h.dur]
def Ch{d:Disk}:(Lv d).2=0->(Lv d).1=d/\d.files.length<=256/\¬d.space<W (Aw d.files)/\¬d.space<W (A0 d.files):=by
 unfold Lv;split
 ·intro h;cases h
 rename_i h1;split
 ·intro h;cases h
 rename_i h2;intro _;simp only[Ff,yE,decide_eq_true_eq,not_or]at h2;exact⟨rfl,by omega,h2.1,h2.2⟩
def By(d:Disk):(Lv d).2=0\/(Lv d).2=27\/((Lv d).2=5/\256<d.files.length):=by
 unfold Lv;split
 ·rename_i h;exact .inr (.inr ⟨rfl,by omega⟩)
 split
 ·exact .inr (.inl rfl)
 exact .inl rfl
def Yl{d:Disk}(h:Wc d=0)(s:List UInt8):Tu d s=if E3 s=true then 0 else 8:=by rw[Tu,if_pos h]
def Tx(fs:List File)(f:File):List File:=if foundAt fs f.name (lb fs f.name)=true then fs.set (lb fs f.name) f else Wb fs (lb fs f.name) f
def Lt{fs:List File}(hs:Wq fs)(f:File)(hf:¬foundAt fs f.name (lb fs f.name)=true):Wq (Wb fs (lb fs f.name) f):=by
 have h1:∀g∈fs.take (lb fs f.name),Op.bytesLess g.name f.name=true:=λg hg=>by rw[<-Ak]at hg;exact z0n (p:=(Ep · f.name)) hg
 have h2:∀g∈fs.drop (lb fs f.name),Op.bytesLess f.name g.name=true:=λg hg=>by
  rcases wa (lb fs f.name) fs.length with h|h
  ·rw[yU h]at hg;rcases y_.1 hg with rfl|hg
   ·have hl:=Vc h;have z1:fs[lb fs f.name].name≠f.name:=by rw[Ei _ _ _ h]at hf;simpa using hf
    exact S3 _ _ hl z1
   exact C3 hs h g hg
  rw[xE h]at hg;cases hg
 unfold Wb;refine List.pairwise_append.2 ⟨List.Pairwise.sublist (List.take_sublist _ _) hs,xO.2 ⟨h2,hs.drop _⟩,λa ha b hb=>?_⟩;rcases y_.1 hb with rfl|hb
 ·exact h1 a ha
 exact Td _ _ _ (h1 a ha) (h2 b hb)
def q0g{fs:List File}(hs:Wq fs)(i:Nat)(f:File)(h:i<fs.length)(hn:fs[i].name=f.name):Wq (fs.set i f):=by
 refine xW.2 λa b ha hb z1=>?_;have z8:a<fs.length:=by simpa using ha
 have za:b<fs.length:=by simpa using hb
 have hh:=xW.1 hs a b z8 za z1;rw[uj,uj];split
 ·rename_i e;subst e;rw[if_neg (by omega),<-hn];exact hh
 split
 ·rename_i e;subst e;rw[<-hn];exact hh
 exact hh
def Oy{fs:List File}(hs:Wq fs)(f:File):Wq (Tx fs f):=by
 unfold Tx;split
 ·rename_i h;have z1:=W8 h;exact q0g hs _ f z1 (by rw[Ei _ _ _ z1]at h;simpa using h)
 rename_i h;exact Lt hs f h
def Y9(fs:List File)(f:File):(Tx fs f)[lb fs f.name]?=some f:=by
 unfold Tx;split
 ·rename_i h;rw[zJ (W8 h)]
 have:=Xs fs f.name;rw[Wb,zF (by simp;omega)];simp[wR this]
def J7{fs:List File}{f g:File}(hg:g∈fs)(hn:g.name≠f.name):g∈Tx fs f:=by
 unfold Tx;split
 ·rename_i h;have z1:=W8 h;obtain⟨i,hi⟩:=xm.1 hg;refine xm.2 ⟨i,?_⟩;rw[zI ?_]
  ·exact hi
  intro e;subst e;rw[zG z1]at hi;rw[Ei _ _ _ z1]at h;cases hi;simp at h;exact hn h
 rw[Wb];rw[<-yN (lb fs f.name) fs]at hg;rcases xu.1 hg with h|h
 ·exact List.mem_append_left _ h
 exact List.mem_append_right _ (xA _ h)
def Yt{fs:List File}{f g:File}(hg:g∈Tx fs f):g=f\/g∈fs:=by
 unfold Tx at hg;split at hg
 ·rcases List.mem_or_eq_of_mem_set hg with h|h
  ·exact .inr h
  exact .inl h
 rw[Wb]at hg;rcases xu.1 hg with h|h
 ·exact .inr (xL h)
 rcases y_.1 h with h|h
 ·exact .inl h
 exact .inr (wd h)
def Pe{d:Disk}(hs:Wq d.files)(f:File):q1a d f=⟨Tx d.files f,d.space⟩:=Up hs f
def Bf{d:Disk}(hs:Wq d.files)(s:List UInt8):(Kj d s).name=s:=by
 rw[Hf hs];split
 ·rename_i h;have z1:=W8 h;rw[zG z1,xQ];rw[Ei _ _ _ z1]at h;simpa using h
 rfl
def Zq{d:Disk}(h:Good d){s:List UInt8}{g:List UInt8->List UInt8}(z1:(Wl d s g).2=0):
  E3 s=true/\∃f:File,f.name=s/\f.vol=g (Kj d s).vol/\f.dur=(Kj d s).dur/\(Wl d s g).1=⟨Tx d.files f,d.space⟩/\Good ⟨Tx d.files f,d.space⟩:=by
 rw[D7]at z1 |-;rw[Yl (Ew.2 h)]at z1 |-;by_cases hn:E3 s=true
 ·rw[if_pos hn,if_pos rfl]at z1 |-;refine⟨hn,{ Kj d s with vol:=g (Kj d s).vol },Bf h.sorted s,rfl,rfl,?_⟩;rw[Pe h.sorted]at z1 |-;obtain⟨e1,e2,e3,e4⟩:=Ch z1;refine⟨e1,h.sp,e2,Oy h.sorted _,λf hf=>?_,e3,e4⟩;rcases Yt hf with rfl|hf
  ·simpa[Bf h.sorted s]using hn
  exact h.names f hf
 rw[if_neg hn]at z1;simp at z1
def Vq{fs:List File}{f:File}(h:foundAt fs f.name (lb fs f.name)=true):(Tx fs f).length=fs.length:=by rw[Tx,if_pos h,List.length_set]
def B4{fs:List File}(hs:Wq fs){x:File}(hx:x∈fs):foundAt fs x.name (lb fs x.name)=true:=by
 obtain⟨i,_,_,hf⟩:=Ud hs hx;have:=A1 ⟨fs,0⟩ x.name hs;rw[hf]at this;split at this
 ·assumption
 cases this
def Ay:∀(fs:List File) (out:List File) (cs:List Int) (i:Nat) (x:File),fs[i]?=some x->∃z1,(fs.foldl Et (out,cs)).1[out.length+i]?=some ⟨x.name,(Es x z1).1,(Es x z1).1⟩
 |[],_,_,_,_,h=>by simp at h
 |f::fs,out,cs,i,x,h=>by
  rw[xK];rcases i with _|i
  ·simp only[xr,Option.some.injEq]at h;subst h;refine⟨cs,?_⟩;have key:∀(l:List File) (st:List File×List Int) (j:Nat) (y:File),st.1[j]?=some y->(l.foldl Et st).1[j]?=some y:=by
    intro l;induction l with
    |nil=>intro st j y h;exact h
    |cons g l ih=>intro st j y h;rw[xK];refine ih _ j y ?_;rw[Et];simp only;rw[zK (zD.1 h).1];exact h
   exact key fs _ _ _ (by simp[Et])
  obtain⟨z1,hc⟩:=Ay fs (out++[⟨f.name,(Es f cs).1,(Es f cs).1⟩]) (Es f cs).2 i x (by simpa using h);refine⟨z1,?_⟩;simp only[List.length_append,List.length_singleton]at hc;rw[show out.length+(i+1)=out.length+1+i by omega];exact hc
def Y7(f:File)(cs:List Int):((Es f cs).1=f.dur\/(Es f cs).1.isPrefixOf f.vol=true)/\(f.dur=f.vol->(Es f cs).1=f.dur):=by
 unfold Es;split
 ·exact⟨.inl rfl,λ_=>rfl⟩
 rename_i z1;refine⟨?_,λe=>absurd e z1⟩;simp only;split
 ·exact .inl rfl
 split
 ·exact .inr (by rw[xh];exact List.prefix_refl _)
 split
 ·exact .inr (by simp)
 exact .inr (by rw[xh];exact List.take_prefix _ _)
def Sg(fs:List File)(cs:List Int):(W3 fs cs).1.map (·.name)=fs.map (·.name):=by
 refine xk λi=>?_;rw[zU,zU];cases hx:fs[i]? with
 |none=>have:=Iv fs cs;rw[wb (by have:=List.getElem?_eq_none_iff.1 hx;omega)]
 |some x=>obtain⟨z1,hc⟩:=Ay fs [] cs i x hx;simp only[wH,yW]at hc;rw[W3,hc];rfl
def Xg{fs gs:List File}(h:fs.map (·.name)=gs.map (·.name))(hs:Wq gs):Wq fs:=by
 have h1:(fs.map (·.name)).Pairwise (λa b=>Op.bytesLess a b=true):=by rw[h];exact ud.2 hs
 exact ud.1 h1
def j01{fs gs:List File}(h:fs.map (·.name)=gs.map (·.name))(hs:∀f∈gs,E3 f.name=true):∀f∈fs,E3 f.name=true:=λf hf=>by
 have:f.name∈gs.map (·.name):=by rw[<-h];exact xg.2 ⟨f,hf,rfl⟩
 obtain⟨g,hg,e⟩:=xg.1 this;rw[<-e];exact hs g hg
def B7{d:Disk}(h:Good d)(cs:List Int):(R2 d cs).2.2=27\/(R2 d cs).2.2=0/\(R2 d cs).1=⟨(W3 d.files cs).1,d.space⟩/\(R2 d cs).2.1=(W3 d.files cs).2/\Good ⟨(W3 d.files cs).1,d.space⟩:=by
 rw[R2,if_pos (Ew.2 h)];simp only;have hlen:=Iv d.files cs;rcases By ⟨(W3 d.files cs).1,d.space⟩with h1|h1|h1
 ·rw[if_pos h1];obtain⟨e1,e2,e3,e4⟩:=Ch h1;exact .inr ⟨rfl,e1,rfl,h.sp,e2,Xg (Sg _ _) h.sorted,j01 (Sg _ _) h.names,e3,e4⟩
 ·rw[if_neg (by rw[h1];decide)];exact .inl h1
 exfalso;have:=h1.2;simp only at this;have:=h.len;omega
end
section
open Go Go.Proofs
def Bh{d:Disk}{n:Nat}(h:∀f∈d.files,f.dur.length<=n)(s:List UInt8):(Kj d s).dur.length<=n:=by
 unfold Kj;split
 ·simp
 rename_i i _;cases hi:d.files[i]? with
 |none=>simp
 |some f=>simpa using h f (zE hi)
def Us{d:Disk}{s:List UInt8}{x:File}:x∈(Wv d s).files↔x∈d.files/\x.name≠s:=by simp[Wv]
def Ft{d:Disk}(h:Good d){s:List UInt8}{i:Nat}(hf:findF d.files s 0=some i):(Wv d s).files.length=d.files.length - 1:=by
 have hp:=A1 d s h.sorted;rw[hf]at hp;split at hp
 ·rename_i z1;have z8:=W8 z1;have hd:=Om h.sorted s;rw[if_pos z1]at hd;have:(Wv d s).files=d.files.take (lb d.files s)++d.files.drop (lb d.files s+1):=by
   show d.files.filter (λg=>g.name != s)=_
   conv=>lhs;rw[<-yN (lb d.files s) d.files]
   rw[vf,hd]
   congr 1
   exact vc.2 λg hg=>by simpa using y06 d.files s g hg
  rw[this];simp;omega
 cases hp
def c0v(l:List Nat)(i y:Nat)(h:i<l.length):(l.set i y).sum+l[i]=l.sum+y:=by
 induction l generalizing i with
 |nil=>simp at h
 |cons a l ih=>
  rcases i with _|i
  ·simp;omega
  have:=ih i (by simpa using h);simp only[List.set_cons_succ,xH,vK];omega
def Kc(l:List File)(g:File->Nat)(s:List UInt8)(x:File)(hx:x∈l)(hn:x.name=s):((l.filter (λf=>f.name != s)).map g).sum+g x<=(l.map g).sum:=by
 induction l with
 |nil=>cases hx
 |cons a l ih=>
  rcases y_.1 hx with rfl|hx
  ·rw[wJ (by simp[hn])];have:((l.filter (λf=>f.name != s)).map g).sum<=(l.map g).sum:=by
    clear ih hx;induction l with
    |nil=>simp
    |cons b l ih=>
     rw[wu];split
     ·simp only[z_,xH];omega
     simp only[z_,xH];omega
   simp only[z_,xH];omega
  have:=ih hx;rw[wu];split
  ·simp only[z_,xH];omega
  simp only[z_,xH];omega
def Ir(l:List File)(g:File->Nat)(n m:Nat)(hl:l.length<=m)(hb:∀f∈l,g f<=n):(l.map g).sum<=m * n:=by
 induction l generalizing m with
 |nil=>simp
 |cons a l ih=>
  rcases m with _|m
  ·simp at hl
  have:=ih m (by simpa using hl) (λf hf=>hb f (by simp[hf]));have h2:=hb a (by simp);simp only[z_,xH];rw[Nat.add_mul,Nat.one_mul];omega
def u1z{m n:Nat}{b:Int}(z1:m<=n)(hn:n<=9223372036854775807)(h:¬b<W (n:Int)):¬b<W (m:Int):=by rw[W,wrap_i64 _ (by omega) (by omega)]at h |-;omega
def Xh{d:Disk}(h:Good d){x:File}(hx:x∈d.files):(Tj d x.name).2=27\/(Tj d x.name).2=0/\(Tj d x.name).1=⟨Tx d.files { x with dur:=x.vol },d.space⟩/\Good ⟨Tx d.files { x with dur:=x.vol },d.space⟩:=by
 rw[j02,v06,Yl (Ew.2 h),if_pos (h.names x hx),if_pos rfl];obtain⟨i,z1,hi,hf⟩:=Ud h.sorted hx;rw[hf];simp only;have z8:d.files[i]! =x:=by have:=(zD.1 hi).2;simp[z1,this]
 rw[z8,Pe h.sorted];have za:foundAt d.files ({ x with dur:=x.vol }:File).name (lb d.files ({ x with dur:=x.vol }:File).name)=true:=by have:=B4 h.sorted hx;exact this
 rcases By ⟨Tx d.files { x with dur:=x.vol },d.space⟩with h1|h1|h1
 ·obtain⟨e1,e2,e3,e4⟩:=Ch h1;refine .inr ⟨h1,e1,h.sp,e2,Oy h.sorted _,λf hf=>?_,e3,e4⟩;rcases Yt hf with rfl|hf
  ·exact h.names x hx
  exact h.names f hf
 ·exact .inl h1
 exfalso;have h2:=h1.2;simp only at h2;rw[Vq za]at h2;have:=h.len;omega
def Ye(fs:List File)(f:File):(Tx fs f).length<=fs.length+1:=by
 unfold Tx;split
 ·simp
 rw[Ia _ _ _ (Xs _ _)];exact zR _
end
end Go.Abs
namespace Go.Proofs
open Go.Shelf
def Tryz.laysM171_ren:Go.Shelf.Ren:=⟨λ|171=>67|243=>103|246=>127|283=>171|284=>172|285=>173|286=>174|129=>152|317=>200|318=>201|319=>202|320=>203|337=>223|338=>224|n=>n,λ|3=>3|9=>9|2=>2|4=>4|171=>264|0=>0|53=>244|37=>22|5=>5|173=>266|212=>297|51=>242|20=>20|213=>298|46=>193|232=>335|233=>336|n=>n,λ|17=>0|18=>5|19=>6|n=>n⟩
def Tryz.laysM171:Go.Proofs.LaysM.n171 prog Tryz.laysM171_ren:={
 mixed:=by kernel_rfl
 f129:=func152.trans (congrArg some (by kernel_rfl))
 f171:=func67.trans (congrArg some (by kernel_rfl))
 f243:=func103.trans (congrArg some (by kernel_rfl))
 f246:=func127.trans (congrArg some (by kernel_rfl))
 f283:=func171.trans (congrArg some (by kernel_rfl))
 f284:=func172.trans (congrArg some (by kernel_rfl))
 f285:=func173.trans (congrArg some (by kernel_rfl))
 f286:=func174.trans (congrArg some (by kernel_rfl))
 f317:=func200.trans (congrArg some (by kernel_rfl))
 f318:=func201.trans (congrArg some (by kernel_rfl))
 f319:=func202.trans (congrArg some (by kernel_rfl))
 f320:=func203.trans (congrArg some (by kernel_rfl))
 f337:=func223.trans (congrArg some (by kernel_rfl))
 f338:=func224.trans (congrArg some (by kernel_rfl))
 t0:=underlying0
 a0:=isAgg0
 z0:=sizeOf0
 v0:=zeroValue0
 t2:=underlying2
 a2:=isAgg2
 z2:=sizeOf2
 v2:=zeroValue2
 t3:=underlying3
 a3:=isAgg3
 z3:=sizeOf3
 v3:=zeroValue3
 t4:=underlying4
 a4:=isAgg4
 z4:=sizeOf4
 v4:=zeroValue4
 t5:=underlying5
 a5:=isAgg5
 z5:=sizeOf5
 v5:=zeroValue5
 t9:=underlying9
 a9:=isAgg9
 z9:=sizeOf9
 v9:=zeroValue9
 t20:=underlying20
 a20:=isAgg20
 z20:=sizeOf20
 v20:=zeroValue20
 t37:=underlying22
 a37:=isAgg22
 z37:=sizeOf22
 v37:=zeroValue22
 t46:=underlying193
 a46:=isAgg193
 z46:=sizeOf193
 v46:=zeroValue193
 t51:=underlying242
 a51:=isAgg242
 z51:=sizeOf242
 v51:=zeroValue242
 t53:=underlying244
 a53:=isAgg244
 z53:=sizeOf244
 v53:=zeroValue244
 t171:=underlying264
 a171:=isAgg264
 z171:=sizeOf264
 v171:=zeroValue264
 t173:=underlying266
 a173:=isAgg266
 z173:=sizeOf266
 v173:=zeroValue266
 t212:=underlying297
 a212:=isAgg297
 z212:=sizeOf297
 v212:=zeroValue297
 t213:=underlying298
 a213:=isAgg298
 z213:=sizeOf298
 t232:=underlying335
 a232:=isAgg335
 z232:=sizeOf335
 v232:=zeroValue335
 t233:=underlying336
 a233:=isAgg336
 z233:=sizeOf336
 v233:=zeroValue336
 g17:=by kernel_rfl
 g18:=by kernel_rfl
 g19:=by kernel_rfl
 i0:=by kernel_rfl
 i2:=by kernel_rfl
 i3:=by kernel_rfl
 i4:=by kernel_rfl
 i5:=by kernel_rfl
 i9:=by kernel_rfl
 i20:=by kernel_rfl
 i37:=by kernel_rfl
 i46:=by kernel_rfl
 i51:=by kernel_rfl
 i53:=by kernel_rfl
 i171:=by kernel_rfl
 i173:=by kernel_rfl
 i212:=by kernel_rfl
 i232:=by kernel_rfl
 i233:=by kernel_rfl
 m17:=by kernel_rfl
 m18:=by kernel_rfl
 m19:=by kernel_rfl }
open Go.RowKit Go.Sort Go.Lib in
def Tryz.strconv_Itoa (n:Int) (h0: -9223372036854775808<=n) (h1:n<=9223372036854775807) (w:World) (z1:Lib.TabIs prog w "internal/strconv.uint64pow10" .u64 Lib.pow10Tab):
  Calls prog 67 #[.int .i64 n] w λe w'=>e= .returned (.string ⟨(Lib.itoa n).toArray⟩)/\∃k os,w'=grow (w.drewN k) os:=Any.strconv_Itoa Tryz.laysM171 n h0 h1 w z1
def Tryz.laysC172_ren:Go.Shelf.Ren:=⟨λ|172=>141|244=>182|245=>183|247=>209|279=>210|280=>211|281=>212|282=>213|287=>229|316=>230|171=>67|205=>231|321=>238|322=>239|243=>103|246=>127|283=>171|284=>172|285=>173|286=>174|129=>152|317=>200|318=>201|319=>202|320=>203|337=>223|338=>224|n=>n,λ|9=>9|3=>3|75=>230|76=>231|4=>4|5=>5|167=>302|37=>22|0=>0|85=>303|2=>2|168=>305|53=>244|175=>325|46=>193|210=>328|127=>338|145=>341|143=>339|21=>21|171=>264|173=>266|212=>297|51=>242|20=>20|213=>298|232=>335|233=>336|80=>330|n=>n,λ|15=>3|16=>4|17=>0|18=>5|19=>6|n=>n⟩
def Tryz.laysC172:Go.Proofs.LaysC.n172 prog Tryz.laysC172_ren:={
 mixed:=by kernel_rfl
 f129:=func152.trans (congrArg some (by kernel_rfl))
 f171:=func67.trans (congrArg some (by kernel_rfl))
 f172:=func141.trans (congrArg some (by kernel_rfl))
 f205:=func231.trans (congrArg some (by kernel_rfl))
 f243:=func103.trans (congrArg some (by kernel_rfl))
 f244:=func182.trans (congrArg some (by kernel_rfl))
 f245:=func183.trans (congrArg some (by kernel_rfl))
 f246:=func127.trans (congrArg some (by kernel_rfl))
 f247:=func209.trans (congrArg some (by kernel_rfl))
 f279:=func210.trans (congrArg some (by kernel_rfl))
 f280:=func211.trans (congrArg some (by kernel_rfl))
 f281:=func212.trans (congrArg some (by kernel_rfl))
 f282:=func213.trans (congrArg some (by kernel_rfl))
 f283:=func171.trans (congrArg some (by kernel_rfl))
 f284:=func172.trans (congrArg some (by kernel_rfl))
 f285:=func173.trans (congrArg some (by kernel_rfl))
 f286:=func174.trans (congrArg some (by kernel_rfl))
 f287:=func229.trans (congrArg some (by kernel_rfl))
 f316:=func230.trans (congrArg some (by kernel_rfl))
 f317:=func200.trans (congrArg some (by kernel_rfl))
 f318:=func201.trans (congrArg some (by kernel_rfl))
 f319:=func202.trans (congrArg some (by kernel_rfl))
 f320:=func203.trans (congrArg some (by kernel_rfl))
 f321:=func238.trans (congrArg some (by kernel_rfl))
 f322:=func239.trans (congrArg some (by kernel_rfl))
 f337:=func223.trans (congrArg some (by kernel_rfl))
 f338:=func224.trans (congrArg some (by kernel_rfl))
 t0:=underlying0
 a0:=isAgg0
 z0:=sizeOf0
 v0:=zeroValue0
 t2:=underlying2
 a2:=isAgg2
 z2:=sizeOf2
 v2:=zeroValue2
 t3:=underlying3
 a3:=isAgg3
 z3:=sizeOf3
 v3:=zeroValue3
 t4:=underlying4
 a4:=isAgg4
 z4:=sizeOf4
 v4:=zeroValue4
 t5:=underlying5
 a5:=isAgg5
 z5:=sizeOf5
 v5:=zeroValue5
 t9:=underlying9
 a9:=isAgg9
 z9:=sizeOf9
 v9:=zeroValue9
 t20:=underlying20
 a20:=isAgg20
 z20:=sizeOf20
 v20:=zeroValue20
 t21:=underlying21
 a21:=isAgg21
 z21:=sizeOf21
 v21:=zeroValue21
 t37:=underlying22
 a37:=isAgg22
 z37:=sizeOf22
 v37:=zeroValue22
 t46:=underlying193
 a46:=isAgg193
 z46:=sizeOf193
 v46:=zeroValue193
 t51:=underlying242
 a51:=isAgg242
 z51:=sizeOf242
 v51:=zeroValue242
 t53:=underlying244
 a53:=isAgg244
 z53:=sizeOf244
 v53:=zeroValue244
 t75:=underlying230
 a75:=isAgg230
 z75:=sizeOf230
 v75:=zeroValue230
 t76:=underlying231
 a76:=isAgg231
 z76:=sizeOf231
 v76:=zeroValue231
 t85:=underlying303
 a85:=isAgg303
 z85:=sizeOf303
 v85:=zeroValue303
 t127:=underlying338
 a127:=isAgg338
 z127:=sizeOf338
 v127:=zeroValue338
 t143:=underlying339
 a143:=isAgg339
 z143:=sizeOf339
 v143:=zeroValue339
 t145:=underlying341
 a145:=isAgg341
 z145:=sizeOf341
 v145:=zeroValue341
 t167:=underlying302
 a167:=isAgg302
 z167:=sizeOf302
 v167:=zeroValue302
 t168:=underlying305
 a168:=isAgg305
 z168:=sizeOf305
 v168:=zeroValue305
 t171:=underlying264
 a171:=isAgg264
 z171:=sizeOf264
 v171:=zeroValue264
 t173:=underlying266
 a173:=isAgg266
 z173:=sizeOf266
 v173:=zeroValue266
 t175:=underlying325
 a175:=isAgg325
 z175:=sizeOf325
 v175:=zeroValue325
 t210:=underlying328
 a210:=isAgg328
 z210:=sizeOf328
 v210:=zeroValue328
 t212:=underlying297
 a212:=isAgg297
 z212:=sizeOf297
 v212:=zeroValue297
 t213:=underlying298
 a213:=isAgg298
 z213:=sizeOf298
 t232:=underlying335
 a232:=isAgg335
 z232:=sizeOf335
 v232:=zeroValue335
 t233:=underlying336
 a233:=isAgg336
 z233:=sizeOf336
 v233:=zeroValue336
 g15:=by kernel_rfl
 g16:=by kernel_rfl
 g17:=by kernel_rfl
 g18:=by kernel_rfl
 g19:=by kernel_rfl
 t80:=underlying330
 a80:=isAgg330
 z80:=sizeOf330
 v80:=zeroValue330
 i0:=by kernel_rfl
 i2:=by kernel_rfl
 i3:=by kernel_rfl
 i4:=by kernel_rfl
 i5:=by kernel_rfl
 i9:=by kernel_rfl
 i20:=by kernel_rfl
 i21:=by kernel_rfl
 i37:=by kernel_rfl
 i46:=by kernel_rfl
 i51:=by kernel_rfl
 i53:=by kernel_rfl
 i75:=by kernel_rfl
 i76:=by kernel_rfl
 i80:=by kernel_rfl
 i85:=by kernel_rfl
 i127:=by kernel_rfl
 i143:=by kernel_rfl
 i145:=by kernel_rfl
 i167:=by kernel_rfl
 i168:=by kernel_rfl
 i171:=by kernel_rfl
 i173:=by kernel_rfl
 i175:=by kernel_rfl
 i210:=by kernel_rfl
 i212:=by kernel_rfl
 i232:=by kernel_rfl
 i233:=by kernel_rfl
 m15:=by kernel_rfl
 m16:=by kernel_rfl
 m17:=by kernel_rfl
 m18:=by kernel_rfl
 m19:=by kernel_rfl
 c0:=by kernel_rfl
 c2:=by kernel_rfl
 c3:=by kernel_rfl
 c4:=by kernel_rfl
 c5:=by kernel_rfl
 c9:=by kernel_rfl
 c20:=by kernel_rfl
 c21:=by kernel_rfl
 c37:=by kernel_rfl
 c46:=by kernel_rfl
 c51:=by kernel_rfl
 c53:=by kernel_rfl
 c75:=by kernel_rfl
 c76:=by kernel_rfl
 c80:=by kernel_rfl
 c85:=by kernel_rfl
 c127:=by kernel_rfl
 c143:=by kernel_rfl
 c145:=by kernel_rfl
 c167:=by kernel_rfl
 c168:=by kernel_rfl
 c171:=by kernel_rfl
 c173:=by kernel_rfl
 c175:=by kernel_rfl
 c210:=by kernel_rfl
 c212:=by kernel_rfl
 c213:=by kernel_rfl
 c232:=by kernel_rfl
 c233:=by kernel_rfl }
open Go.RowKit in
def Tryz.strconv_Atoi_ok(s:ByteArray)(hmax:s.size<=9223372036854775806)(v:Int)(h:Lib.atoiAll s.data.toList= .ok v)(w:World):
  Calls prog 141 #[.string s] w λe w'=>e= .returned (.tuple #[.int .i64 v,.nilIface])/\(w'=w\/∃t,w'=Lib.bytesWorld w 5 t):=Any.strconv_Atoi_ok Tryz.laysC172 s hmax v h w
open Go.RowKit in
def Tryz.strconv_Atoi_syntax(s:ByteArray)(z1:s.size<=281474976710656)(h:Lib.atoiAll s.data.toList=Lib.NumEnd.syntax)(ev:Value)(w:World)(hv:w.cell? ⟨3,0,none⟩=some ev)(z8:ev= .nilIface\/∃te pe,ev= .iface te pe):
  Calls prog 141 #[.string s] w λe w'=>∃N,e= .returned (.tuple #[.int .i64 (0),.iface 305 (.pointer (some ⟨N,0,none⟩))])/\w.heap.size<=N/\w'.heap[N]?=some (.cells #[.string ⟨#[65,116,111,105]⟩,.string s,ev] 328 (0,0))/\Below w.heap.size w w':=Any.strconv_Atoi_syntax Tryz.laysC172 s z1 h ev w hv z8
open Go.RowKit in
def Tryz.strconv_Atoi_range(s:ByteArray)(z1:s.size<=281474976710656)(h:Lib.atoiAll s.data.toList= .range)(ev:Value)(w:World)(hv:w.cell? ⟨4,0,none⟩=some ev)(z8:ev= .nilIface\/∃te pe,ev= .iface te pe):
  Calls prog 141 #[.string s] w λe w'=>∃N,e= .returned (.tuple #[.int .i64 (Lib.atoiSat s.data.toList),.iface 305 (.pointer (some ⟨N,0,none⟩))])/\w.heap.size<=N/\w'.heap[N]?=some (.cells #[.string ⟨#[65,116,111,105]⟩,.string s,ev] 328 (0,0))/\Below w.heap.size w w':=Any.strconv_Atoi_range Tryz.laysC172 s z1 h ev w hv z8
end Go.Proofs
namespace Go.Abs
open Go Go.Proofs
attribute [simp] x1x
def Ka:Te prog 67:=Oa func67 rfl (by kernel_rfl)
def Av(n:Int)(h0: -9223372036854775808<=n)(h1:n<=9223372036854775807):PC prog 67 [.i n] (λr=>r= .str (Lib.itoa n)):=
 g0o (us:=[.int .i64 n]) Ka rfl λw I hE=>(Tryz.strconv_Itoa n h0 h1 w (z0d hE)).mono λe w' ⟨h,k,os,hw⟩=>⟨⟨_,_,rfl,h,.str _⟩,by rw[hw];exact Lib.below_grow _ w (zR _) k os⟩
def Gk(s:List UInt8):AV:=match Lib.atoiAll s with
 | .ok v=> .tup [.i v,.nili]
 | .range=> .tup [.i (Lib.atoiSat s),.ifc]
 |_=> .tup [.i 0,.ifc]
def Kb:Te prog 141:=Oa func141 rfl (by kernel_rfl)
def x1z{w:World}{I:Nat->Prop}{a b:Value}{x y:AV}(h1:PVR w I a x)(h2:PVR w I b y):PVR w I (.tuple #[a,b]) (.tup [x,y]):=
 .tup _ _ rfl λi v z hv hz=>by
  match i with
  |0=>simp at hv hz;subst hv hz;exact h1
  |1=>simp at hv hz;subst hv hz;exact h2
  |i+2=>simp at hv
def y0x(s:List UInt8)(hs:s.length<=1000000000):PC prog 141 [.str s] (λr=>r=Gk s):=
 g0o (us:=[.string ⟨s.toArray⟩]) Kb rfl λw I hE=>by
  have zc:(⟨s.toArray⟩:ByteArray).size=s.length:=by simp[ByteArray.size]
  obtain⟨ev,za,z1⟩:=Gg hE;obtain⟨er,zb,z8⟩:=Ju hE;cases h:Lib.atoiAll s with
  |ok v=>
   refine(Tryz.strconv_Atoi_ok ⟨s.toArray⟩ (by omega) v h w).mono ?_;rintro e w' ⟨rfl,hw⟩;refine⟨⟨_,_,rfl,rfl,?_⟩,?_⟩
   ·rw[Gk,h];exact x1z (.int _ _) .nili
   rcases hw with rfl|⟨t,rfl⟩
   ·exact RowKit.Below.refl _ _
   exact Lib.bytesWorld_below ..
  |range=>refine(Tryz.strconv_Atoi_range ⟨s.toArray⟩ (by omega) h er w zb z8).mono ?_;rintro e w' ⟨N,rfl,_,_,hb⟩;exact⟨⟨_,_,rfl,rfl,by rw[Gk,h];exact x1z (.int _ _) (.ifc _ _)⟩,hb⟩
  |_=>refine(Tryz.strconv_Atoi_syntax ⟨s.toArray⟩ (by omega) h ev w za z1).mono ?_;rintro e w' ⟨N,rfl,_,_,hb⟩;exact⟨⟨_,_,rfl,rfl,by rw[Gk,h];exact x1z (.int _ _) (.ifc _ _)⟩,hb⟩
def T0(d:Nat)(h:d<10):(UInt8.ofNat (48+d)).toNat=48+d:=by simp;omega
def q1d(c:UInt8):Bool:=decide (48<=c.toNat) && decide (c.toNat<=57)
def P3(c:UInt8):q1d c=true↔48<=c.toNat/\c.toNat<=57:=by simp[q1d]
def x0c:∀(u:Nat),(Lib.decDigits u).all q1d=true:=λu=>by
 induction u using vr with
 |ind u ih=>
  rw[Lib.decDigits];split
  ·rename_i h;rw[wg,(P3 _).2 (by rw[T0 u h];omega)];rfl
  rename_i h;rw[vE,ih (u / 10) (by omega),wg,(P3 _).2 (by rw[T0 (u % 10) (by omega)];omega)];rfl
def w11:∀(u:Nat),Lib.decDigits u≠[]:=λu=>by rw[Lib.decDigits];split<;>simp
def g0s(n:Nat)(c:UInt8):Nat:=min (10 * n+(c.toNat - 48)) 1099511627777
def g0x:∀(u:Nat),u<=1099511627776->(Lib.decDigits u).foldl g0s 0=u:=λu=>by
 induction u using vr with
 |ind u ih=>
  intro hu;rw[Lib.decDigits];split
  ·rename_i h;rw[xK,vk,g0s,T0 u h];omega
  rename_i h;rw[uc,ih (u / 10) (by omega) (by omega),xK,vk,g0s,T0 (u % 10) (by omega)];omega
def Hk:∀(l:List UInt8) (a m:Nat) (c:UInt8),Lib.parseUint10 a l= .ok m->q1d c=true->m<=1099511627776->Lib.parseUint10 a (l++[c])= .ok (m * 10+(c.toNat - 48))
 |[],a,m,c,h,hc,hm=>by
  have z1:=(P3 c).1 hc;simp only[Lib.parseUint10]at h;injection h with h
  subst h;rw[wo,Lib.parseUint10,if_pos z1,if_neg (by omega),if_neg (by omega)];rfl
 |x::l,a,m,c,h,hc,hm=>by
  rw[xX];rw[Lib.parseUint10]at h |-;split at h
  ·rename_i h1;rw[if_pos h1];split at h
   ·cases h
   rename_i h2;rw[if_neg h2];split at h
   ·cases h
   rename_i h3;rw[if_neg h3];exact Hk l _ m c h hc hm
  cases h
def z0p:∀(u:Nat),u<=1099511627776->Lib.parseUint10 0 (Lib.decDigits u)= .ok u:=λu=>by
 induction u using vr with
 |ind u ih=>
  intro hu;rw[Lib.decDigits];split
  ·rename_i h;rw[Lib.parseUint10,if_pos (by rw[T0 u h];omega),if_neg (by omega),if_neg (by rw[T0 u h];omega),T0 u h,Lib.parseUint10];congr 1;omega
  rename_i h;rw[Hk _ 0 (u / 10) _ (ih (u / 10) (by omega) (by omega)) ((P3 _).2 (by rw[T0 (u % 10) (by omega)];omega)) (by omega),T0 (u % 10) (by omega)]
  congr 1;omega
def S7(u:Nat)(hu:u<=1099511627776):Lib.atoiAll (Lib.decDigits u)= .ok (u:Int):=by
 have z8:=w11 u;have z1:=x0c u;have hp:=z0p u hu;generalize Lib.decDigits u=l at *
 rcases l with _|⟨c,r⟩
 ·exact absurd rfl z8
 have hc:=(P3 c).1 (zV.1 z1 c (by simp));rw[Lib.atoiAll];rw[if_neg (by omega),Lib.parseMag,if_neg z8,hp];show(if ¬c.toNat=45/\9223372036854775808<=u then _ else if c.toNat=45/\9223372036854775808<u then _ else Lib.NumEnd.ok (if c.toNat=45 then -(u:Int)else u))=_;rw[if_neg (by omega),if_neg (by omega),if_neg (by omega)]
def Ra(pre s:List UInt8):Int×Bool:=
 if pre.isPrefixOf s=true/\1<=(s.drop pre.length).foldl g0s 0/\(s.drop pre.length).foldl g0s 0<=1099511627776/\Lib.itoa ((s.drop pre.length).foldl g0s 0:Nat)=s.drop pre.length then(((s.drop pre.length).foldl g0s 0:Nat),true)else(0,false)
def k08{v:Int}(h:0<=v):Lib.itoa v=Lib.decDigits v.toNat:=by obtain⟨u,rfl⟩:=xR h;rw[Lib.itoa_nonneg];rfl
def w03{pre t:List UInt8}{v:Int}(h1:1<=v)(h2:v<=1099511627776)(ht:Lib.itoa v=t):Ra pre (pre++t)=(v,true):=by
 obtain⟨u,rfl⟩:=xR (show(0:Int)<=v by omega);have hd:t=Lib.decDigits u:=by rw[<-ht,Lib.itoa_nonneg]
 have hc:=g0x u (by omega);rw[Ra];simp only[List.drop_left,hd,hc];rw[if_pos ⟨by rw[xh];exact List.prefix_append _ _,by omega,by omega,Lib.itoa_nonneg u⟩]
def Bg{pre s:List UInt8}{v:Int}(h:Ra pre s=(v,true)):1<=v/\v<=1099511627776/\s=pre++Lib.itoa v:=by
 rw[Ra]at h;split at h
 ·rename_i hc;obtain⟨h1,h2,h3,h4⟩:=hc;injection h with h _
  subst h;refine⟨by omega,by omega,?_⟩;rw[h4];rw[xh]at h1;obtain⟨t,rfl⟩:=h1;simp
 injection h with _ h;cases h
def Y8{pre s:List UInt8}(h:∀v,1<=v->v<=1099511627776->s≠pre++Lib.itoa v):Ra pre s=(0,false):=by rw[Ra,if_neg];rintro⟨h1,h2,h3,h4⟩;refine h ((s.drop pre.length).foldl g0s 0:Nat) (by omega) (by omega) ?_;rw[h4];rw[xh]at h1;obtain⟨t,rfl⟩:=h1;simp
def W1(n:Int):Int:=if n<1\/1099511627776<n then 2 else 0
def Cp:List UInt8:=[99,104,101,99,107,112,111,105,110,116,45]
def x1y:List UInt8:=[119,114,105,116,105,110,103,45]
def Rb(n:Int):List UInt8:=Cp++Lib.itoa n
def Wx(n:Int):List UInt8:=x1y++Lib.itoa n
end Go.Abs
