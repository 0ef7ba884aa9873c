/- Part Wi of the proof: steps on the way to the last part. No condition. -/
import Derived.Test.YtjmkolhkojgjpaaGreatDoorWh
import Derived.Test.YtjmkolhkojgjpaaGreatDoorWf
import Derived.Test.YtjmkolhkojgjpaaGreatDoorWc
import Derived.Test.YtjmkolhkojgjpaaGreatDoorWg
import Derived.DeepKeys4
import Derived.Test.YtjmkolhkojgjpaaGreatDoorWe
import Derived.Test.YtjmkolhkojgjpaaGreatDoorWd
import Derived.Shelf.SlGeneric
import Derived.Ground.SlsfProg
import Derived.Shelf.SlSortCmp.WholeK
import Derived.Test.YtjmkolhkojgjpaaGreatDoorProg
set_option linter.all false
open List renaming take_succ_eq_append_getElem->zR,length_map->yE,take_of_length_le->zT,range->yQ,length_cons->yZ,length_nil->uQ,range_succ->wQ,mem_map->zO,getElem?_map->zU,mem_of_getElem?->zJ,ext_getElem?->xL,getElem?_set_self->zK,getElem?_eq_some_iff->zB,getElem?_set_ne->zE,getElem?_eq_none->y_,getElem?_eq_getElem->zI,getElem_eq_iff->zZ,set_set->sr,getElem?_append_right->zF,drop_eq_getElem_cons->wD,drop_length->xX,getElem_mem->zL,getElem_of_mem->yX,getD->yL,map_nil->wG,filter_append->wZ,length_filter_le->yW,length_take->xR,append_nil->yV,take_length->zY,getElem?_append_left->zH,map_append->yR,map_map->vE,all_eq_true->zX,flatten_append->vA,take_append_drop->xI,length_append->zW,map_congr_left->xD,mem_range->yU,flatMap_append->wV,filterMap_append->tq
open Nat renaming le_refl->zS,zero_le->xA,not_lt_zero->sm,le_trans->yP
open Prod renaming ext->u6
open Bool renaming and_eq_true->z_,eq_iff_iff->x_,or_eq_true->vD
open Option renaming map_eq_some_iff->zQ
set_option maxHeartbeats 8000000
set_option linter.unusedSimpArgs false
set_option maxRecDepth 100000
open Go.Proofs.Tryz
namespace Go.Abs
open Go Go.Proofs
section
open Go.Maps Go.RowKit
attribute [local irreducible] Em W7
end
section
open Go.Maps Go.RowKit
attribute [local irreducible] Ao Qv Xi Ra q0y Pr j2b
end
section
open Go.Maps Go.RowKit
end
section
open Go.Maps Go.RowKit
end
section
open Go.Maps Go.RowKit
attribute [local irreducible] Yr Fu Y8 y0c Em R5 j2b W7
end
section
open Go.Maps Go.RowKit
def j2n(a b a' b':Int):eqA T 9 52 (.agg [.int .i64 a,.int .i64 b]) (.agg [.int .i64 a',.int .i64 b'])=some (a==a' && b==b'):=by simp[eqA,Ix,Fz,TI.agg]
def k20{a b:List Sy}{j:Nat}(h1:j<a.length)(h2:j<b.length)(h:a.take j=b.take j)(e:a[j]=b[j]):a.take (j+1)=b.take (j+1):=by rw[zR h1,zR h2,h,e]
def Ce(a b:List Sy):PC prog 26 [LSy a,LSy b] (λr=>r= .bool (decide (a=b))):=by
 refine pcB func26 results26 ntmps26 ?_;simp only[Qd];refine Y5 0 rfl (λhlen=>?_);rw[yE]at hlen;repeat(refine s_ ?_;simp)
 refine Qa rfl (λh=>?_) (λh1=>?_)
 ·repeat(refine s_ ?_;simp)
  rintro rfl;simp at h
 have hl:a.length=b.length:=by simp at h1;omega
 repeat(refine s_ ?_;simp)
 refine Qr a.length (λj=>a.take j=b.take j) (λj=>[(0,LSy a),(1,LSy b),(12,.i a.length),(13,.i j)]) (λ_=>[]) rfl (by simp) (by simp) (by simp) (by simp) (by simp) ?_;intro j hj hI ih;repeat(refine s_ ?_;simp)
 refine Qa rfl (λz8=>?_) (λza=>?_)
 ·have z1:j<a.length:=by simpa using z8
  have z6:j<b.length:=by omega
  repeat(refine s_ ?_;simp)
  refine drT [] (.pv 0 9 (.done)) ?_;simp[z1,z6,j2n];refine Qa rfl (λh=>?_) (λh=>?_)
  ·repeat(refine s_ ?_;simp)
   rintro rfl;simp at h
  repeat(refine s_ ?_;simp)
  have he:a[j]=b[j]:=by
   have h2:a[j].ty=b[j].ty/\a[j].num=b[j].num:=by simpa using h
   cases ha:a[j];cases hb:b[j];rw[ha,hb]at h2;simp only at h2;rw[h2.1,h2.2]
  refine Qt _ (ih z1 (k20 z1 z6 hI he)) rfl (by simp) ?_ (by simp) (by simp);simp;exact wrap_i64 _ (by omega) (by omega)
 have z7:j=a.length:=by simp at za;omega
 subst z7;repeat(refine s_ ?_;simp)
 rw[zT (zS _),zT (by omega)]at hI;exact hI
end
section
open Go.Maps Go.RowKit
def Bi(lo hi:Int):PC prog 145 [.i lo,.i hi] (λr=>r=encP [[⟨lo,hi⟩]]):=by refine pcB func145 results145 ntmps145 ?_;simp only[Qd];refine Rn (R6 tOk rfl ?_);simp;refine Rn (R6 tOk rfl ?_);simp;refine Iz 1 (e:=144) (c:=2) (xs:=[encIv ⟨lo,hi⟩]) rfl 2 (o0:= .va 145 1 [.sl 1 2 0 1]) rfl (by decide) rfl ?_;simp[AObj.fz,AV.fz];refine P0 2 rfl (by simp[AV.cells,AV.pure]) ?_;simp;refine Q0 2 (e:=145) (c:=1) (xs:=[encL [⟨lo,hi⟩]]) rfl 0 rfl ?_;simp;repeat(refine s_ ?_;simp)
def z0x:PC prog 79 [] (λr=>r= .tup [encA exQ,encA exR]):=by
 refine pcB func79 results79 ntmps79 ?_;simp only[Qd];have z1:yQ 2=[0,1]:=rfl;have z6:yQ 4=[0,1,2,3]:=rfl;repeat(refine s_ ?_;simp[z1,z6])
 refine pcL (Bi (-1099511627776) 1099511627776) ?_;simp[z1,z6];refine pcL (Bi (-1099511627776) 4) ?_;simp[z1,z6];refine pcL (Bi 5 1099511627776) ?_;simp[z1,z6];repeat(refine s_ ?_;simp[z1,z6])
 refine kpA [(0,.vptr 0 0),(1,.vptr 1 0),(5,.vptr 7 0),(6,.vptr 10 0)] ?_;refine Q0 5 (e:=4) (c:=1) (xs:=[.bool false,.bool true]) rfl 7 rfl ?_;simp;refine Q0 8 (e:=4) (c:=1) (xs:=[.bool false,.bool true]) rfl 10 rfl ?_;simp;refine Q0 6 (e:=73) (c:=3) (xs:=exQ.mv.map encMv) rfl 7 rfl ?_;have z7:exQ.mv.length=2:=rfl;have z8:exR.mv.length=4:=rfl;simp[z7];refine Q0 9 (e:=73) (c:=3) (xs:=exR.mv.map encMv) rfl 10 rfl ?_;simp[z8];rw[zT (by simp[z7]),zT (by simp[z8])];refine Js tOk mixed [2,3] (.val 0 (.two 1 (.one 2 (.one 3 (.done))) 2 (.val 1 (.one 3 (.done))))) rfl (by kernel_rfl) ?_;simp;repeat(refine s_ ?_;simp)
 exact⟨⟨rfl,rfl⟩,rfl,rfl⟩
end
section
open Go.Maps Go.RowKit
attribute [simp] y2u w3c w3f
def v08:(prog).underlying 66=some (.array 2 3):=by kernel_rfl
def x2v:(prog).underlying 3=some (.int .i64):=by kernel_rfl
def x0i:(prog).cellsOf 66=2:=by kernel_rfl
def w1x:(prog).cellsOf 3=1:=by kernel_rfl
def k2m:(prog).keyType 66=true:=by kernel_rfl
def k24:laidOutB prog=true:=by kernel_rfl
def k2l:(prog).keyTypeAt 3 66=true:=by kernel_rfl
def q29:66<(prog).types.size:=of_decide_eq_true (by kernel_rfl)
def Lk:Keyed prog 66:=Keyed.of_law (deep_law_laid k24 (m:=3) (by decide) q29 k2l (by rw[v08]))
def okQ(s:Int×Int):Prop:=(-1<=s.1/\s.1<=1000000)/\(-1<=s.2/\s.2<=1000000)
def z2s{s t:Int×Int}(h:pqr s=pqr t):s=t:=by unfold pqr at h;simp at h;exact u6 h.1 h.2
def u21{z:Int}(h: -1<=z/\z<=1000000):(Lit.int .i64 z).wf=true:=by
 have h1:IntKind.i64.min= -9223372036854775808:=by decide
 have h2:IntKind.i64.max=9223372036854775807:=by decide
 simp only[Lit.wf,h1,h2,z_,decide_eq_true_eq];omega
def w1j(d:Nat){z:Int}(h: -1<=z/\z<=1000000):(prog).keyLits (d+1) 3 [.int .i64 z]=some [.int .i64 z]:=by unfold Program.keyLits;rw[x2v];simp[u21 h]
def g2y(d:Nat){s:Int×Int}(h:okQ s):(prog).keyLits (d+2) 66 [.int .i64 s.1,.int .i64 s.2]=some [.int .i64 s.1,.int .i64 s.2]:=by unfold Program.keyLits;rw[v08];simp only[x0i,w1x,yZ,uQ,if_true];have h1:=w1j d h.1;have h2:=w1j d h.2;simp[wQ,h1,h2]
def Au{s:Int×Int}(h:okQ s):isKey prog 66 (pqr s):=by
 refine⟨.agg #[.int .i64 s.1,.int .i64 s.2],.string (keyBytes [.int .i64 s.1,.int .i64 s.2]),rfl,?_⟩;obtain⟨d,hd⟩:∃d,(prog).types.size+1=d+2:=⟨(prog).types.size - 1,by have:=q29;omega⟩
 unfold keyOf;rw[v08];simp only;have hf:Value.formed prog 66 (.agg #[.int .i64 s.1,.int .i64 s.2])=true:=by unfold Value.formed;rw[v08,x0i];rfl
 rw[k2m,hf,hd];have:(Value.agg #[.int .i64 s.1,.int .i64 s.2]).cells.toList=[.int .i64 s.1,.int .i64 s.2]:=rfl;rw[this,g2y d h];rfl
def kvQ(l:List (Int×Int)):List (AV×AV):=l.map λs=>(pqr s,.bool true)
def stQ(l:List (Int×Int)):AObj:= .mp (kvQ l)
def V6{l:List (Int×Int)}(h:∀s∈l,okQ s):∀p∈kvQ l,isKey prog 66 p.1:=λp hp=>by obtain⟨e,he,rfl⟩:=zO.1 hp;exact Au (h e he)
def Bh{l:List (Int×Int)}{j:Nat}{p:AV×AV}{s:Int×Int}(hp:(kvQ l)[j]?=some p)(he:p.1=pqr s):s∈l/\p.2= .bool true:=by unfold kvQ at hp;rw[zU]at hp;obtain⟨m,hm,rfl⟩:=zQ.1 hp;have z1:m=s:=z2s he;exact⟨by rw[<-z1];exact zJ hm,rfl⟩
section
variable {nt k:Nat} {S:AS} {ops:Array Oper} {o:Oper} {R:AS->Prop}
def y02 {wr:Bool} (hw:Qn ops S o=some true) (hd:Wx nt o=true) {x ix:Operand} (ho:o.op= .lookup 174 x ix false) {id:Nat} (hx:rho S.sl x=some (.mref id)) {s:Int×Int} (z1:rho S.sl ix=some (.agg [.i s.1,.i s.2]))
  {l:List (Int×Int)} (z6:S.hp[id]?=some (stQ l)) (hl:∀m∈l,okQ m) (hn:okQ s) (hR:R (S.putD o.dst (.bool (decide (s∈l))))):Q7 prog nt k wr ops o S R:=by
 refine Gj tOk hw hd ho y2u rfl T4 Lk hx z1 z6 (Au hn) (V6 hl) (z:= .bool false) rfl (λj p hp he=>?_) (λz7=>?_)
 ·obtain⟨h1,h2⟩:=Bh hp he;rw[decide_eq_true h1]at hR;rw[h2];exact hR
 rw[decide_eq_false (λh=>z7 (pqr s,.bool true) (zO.2 ⟨s,h,rfl⟩) rfl)]at hR;exact hR
def G8 {wr:Bool} (hw:Qn ops S o=some true) (hd:Wx nt o=true) {x ix:Operand} (ho:o.op= .lookup 174 x ix false) {id:Nat} (hx:rho S.sl x=some (.mref id)) {s:Int×Int} (z1:rho S.sl ix=some (.agg [.i s.1,.i s.2]))
  {l:List (Int×Int)} (z6:S.hp[id]?=some (.fm (kvQ l))) (hl:∀m∈l,okQ m) (hn:okQ s) (hR:R (S.putD o.dst (.bool (decide (s∈l))))):Q7 prog nt k wr ops o S R:=by
 refine C9 tOk hw hd ho y2u rfl T4 Lk hx z1 z6 (Au hn) (V6 hl) (z:= .bool false) rfl (λj p hp he=>?_) (λz7=>?_)
 ·obtain⟨h1,h2⟩:=Bh hp he;rw[decide_eq_true h1]at hR;rw[h2];exact hR
 rw[decide_eq_false (λh=>z7 (pqr s,.bool true) (zO.2 ⟨s,h,rfl⟩) rfl)]at hR;exact hR
def Zx (hw:Qn ops S o=some true) (hd:Wx nt o=true) {x ix y:Operand} (ho:o.op= .mapUpdate 174 x ix y) {id:Nat} (hx:rho S.sl x=some (.mref id)) {s:Int×Int} (z1:rho S.sl ix=some (.agg [.i s.1,.i s.2])) (hy:rho S.sl y=some (.bool true))
  {l:List (Int×Int)} (z6:S.hp[id]?=some (stQ l)) (hl:∀m∈l,okQ m) (hn:okQ s) (z7:s∉l) (hR:R (({ S with hp:=S.hp.set id (stQ (l++[s])) }:AS).putD o.dst (.tup []))):Q7 prog nt k true ops o S R:=by
 refine Ey tOk hw hd ho y2u rfl Lk hx z1 hy (by simp[AV.pure]) z6 (Au hn) (V6 hl) (λj p hp he=>?_) (λz8=>?_)
 ·exact absurd (Bh hp he).1 z7
 have:kvQ l++[(pqr s,.bool true)]=kvQ (l++[s]):=by simp[kvQ]
 unfold stQ at hR;rw[<-this]at hR;exact hR
def w09 (hw:Qn ops S o=some true) (hd:Wx nt o=true) {x ix y:Operand} (ho:o.op= .mapUpdate 174 x ix y) {id:Nat} (hx:rho S.sl x=some (.mref id)) {s:Int×Int} (z1:rho S.sl ix=some (.agg [.i s.1,.i s.2])) (hy:rho S.sl y=some (.bool true))
  {l:List (Int×Int)} (z6:S.hp[id]?=some (stQ l)) (hl:∀m∈l,okQ m) (hn:okQ s) (hR:R (({ S with hp:=S.hp.set id (stQ (adQ l s)) }:AS).putD o.dst (.tup []))):Q7 prog nt k true ops o S R:=by
 by_cases hm:s∈l
 ·rw[g2k hm]at hR;refine Ey tOk hw hd ho y2u rfl Lk hx z1 hy (by simp[AV.pure]) z6 (Au hn) (V6 hl) (λj p hp he=>?_) (λz7=>?_)
  ·obtain⟨h1,h2⟩:=Bh hp he;have:(kvQ l).set j (pqr s,.bool true)=kvQ l:=by
    refine xL λi=>?_;by_cases hi:i=j
    ·subst hi;rw[zK (zB.1 hp).1,hp]
     congr 1
     exact u6 he.symm h2.symm
    rw[zE (Ne.symm hi)]
   unfold stQ at hR;rw[<-this]at hR;exact hR
  exact absurd rfl (z7 (pqr s,.bool true) (zO.2 ⟨s,hm,rfl⟩))
 rw[u24 hm]at hR;exact Zx hw hd ho hx z1 hy z6 hl hn hm hR
def f0q (hw:Qn ops S o=some true) (hd:Wx nt o=true) {x ix y:Operand} (ho:o.op= .insert 174 x ix y) {id:Nat} (hx:rho S.sl x=some (.mref id)) {s:Int×Int} (z1:rho S.sl ix=some (.agg [.i s.1,.i s.2])) (hy:rho S.sl y=some (.bool true))
  (z6:S.hp[id]?=some (.mp [])) (hn:okQ s) (hR:R (({ S with hp:=S.hp.set id (stQ [s]) }:AS).putD o.dst (.tup []))):Q7 prog nt k true ops o S R:=by
 refine Um tOk hw hd ho y2u rfl Lk hx z1 hy (by simp[AV.pure]) z6 (Au hn) (λp hp=>by cases hp) (λj p hp he=>by cases hp) (λz7=>?_);exact hR
end
def f1d(xs ys:List Sy)(i:Nat):Prop:=ys.length=xs.length/\∀p,p<xs.length->ys[p]? =if p<i\/xs.length - i<=p then xs[xs.length - 1 - p]? else xs[p]?
def f1d.done{xs ys:List Sy}{i:Nat}(h:f1d xs ys i)(hi:xs.length<=2 * i+1):ys=xs.reverse:=by
 refine xL λp=>?_;by_cases hp:p<xs.length
 ·rw[h.2 p hp,List.getElem?_reverse hp];split
  ·rfl
  rename_i hn
  congr 1;omega
 rw[y_ (by rw[h.1];omega),y_ (by simp;omega)]
def f1d.start(xs:List Sy):f1d xs xs 0:=⟨rfl,λp hp=>by rw[if_neg (by omega)]⟩
def f1d.step{xs ys:List Sy}{i:Nat}(h:f1d xs ys i)(hi:2 * i+1<xs.length){x y:Sy}(hx:ys[i]?=some x)(hy:ys[xs.length - 1 - i]?=some y):f1d xs ((ys.set i y).set (xs.length - 1 - i) x) (i+1):=by
 refine⟨by simp[h.1],λp hp=>?_⟩;have h1:=h.2 i (by omega);rw[if_neg (by omega),hx]at h1;have h2:=h.2 (xs.length - 1 - i) (by omega);rw[if_neg (by omega),hy]at h2;by_cases e1:p=xs.length - 1 - i
 ·subst e1;rw[zK (by simp[h.1];omega),if_pos (by omega),show xs.length - 1 - (xs.length - 1 - i)=i by omega];exact h1
 rw[zE (Ne.symm e1)];by_cases e2:p=i
 ·subst e2;rw[zK (by rw[h.1];omega),if_pos (by omega)];exact h2
 rw[zE (Ne.symm e2),h.2 p hp];by_cases e3:p<i\/xs.length - i<=p
 ·rw[if_pos e3,if_pos (by omega)]
 rw[if_neg e3,if_neg (by omega)]
def N5(H:List AObj)(p:Nat)(xs:List Sy)(hp:H[p]?=some (.arr 52 2 (xs.map encSy)))(hl:xs.length<=1000000):FC prog 189 [.sl p 2 0 xs.length] H (λr H'=>r= .tup []/\H'=H.set p (.arr 52 2 (xs.reverse.map encSy))):=by
 refine fcB func189 results189 ntmps189 ?_;simp only[Qd];have zc:=Qe hp;have ze:IntKind.i64.wrap ((xs.length:Int) - 1)=(xs.length:Int) - 1:=wrap_i64 _ (by omega) (by omega);have z6:H.set p (.arr 52 2 (xs.map encSy))=H:=by
  refine xL λi=>?_;by_cases e:i=p
  ·subst e;rw[zK zc,hp]
  rw[zE (Ne.symm e)]
 repeat(refine s_ ?_;simp[ze])
 refine lpV (F:=λ(u:Nat×Int×List Sy×List AObj)=>⟨[(0,.sl p 2 0 xs.length),(2,.i u.1),(3,.i u.2.1)],u.2.2.2⟩)
  (λu=>u.1<=xs.length/\u.2.1=(xs.length:Int) - 1 - u.1/\f1d xs u.2.2.1 u.1/\u.2.2.2=H.set p (.arr 52 2 (u.2.2.1.map encSy))) (λu=>xs.length - u.1) ?_ (0,(xs.length:Int) - 1,xs,H) ⟨xA _,by simp,f1d.start xs,z6.symm⟩
 rintro⟨i,m,ys,G⟩ ⟨hi,hm,hr,hG⟩ ih;simp only at hi hm hr hG ih |-;repeat(refine s_ ?_;simp)
 refine Qa rfl (λzf=>?_) (λzg=>?_)
 ·have zh:(i:Int)<m:=by simpa using zf
  obtain⟨k,rfl⟩:∃k:Nat,m=k:=⟨m.toNat,by omega⟩
  have hk:k=xs.length - 1 - i:=by omega
  have zi:i<k:=by omega
  have zj:k<xs.length:=by omega
  have z7:i<xs.length:=by omega
  have zk:=wz i (by omega);have zl:IntKind.i64.wrap ((k:Int) - 1)=(k:Int) - 1:=wrap_i64 _ (by omega) (by omega);have zr:=hr.1;obtain⟨x,hx⟩:∃x,ys[i]?=some x:=⟨_,zI (by omega)⟩
  obtain⟨y,hy⟩:∃y,ys[k]?=some y:=⟨_,zI (by omega)⟩
  have hst:=hr.step (by omega) hx (by rw[<-hk];exact hy);rw[<-hk]at hst;have hg:G[p]?=some (.arr 52 2 (ys.map encSy)):=by rw[hG,zK zc]
  have zd:(ys.map encSy)[i]?=some (.agg [.i x.ty,.i x.num]):=by rw[zU,hx];rfl
  have z8:(ys.map encSy)[k]?=some (.agg [.i y.ty,.i y.num]):=by rw[zU,hy];rfl
  have zm:∀hh,(ys.map encSy)[i]'hh= .agg [.i x.ty,.i x.num]:=λhh=>(zZ hh).2 zd;have zn:∀hh,(ys.map encSy)[k]'hh= .agg [.i y.ty,.i y.num]:=λhh=>(zZ hh).2 z8;have zo:i<ys.length:=by omega
  have za:k<ys.length:=by omega
  have zp:∀z,(G.set p z)[p]?=some z:=λz=>Qf hg z;have z1:∀z,((ys.map encSy).set i z)[k]?=some (.agg [.i y.ty,.i y.num]):=λz=>by rw[zE (by omega)];exact z8
  have zb:∀z hh,((ys.map encSy).set i z)[k]'hh= .agg [.i y.ty,.i y.num]:=λz hh=>(zZ hh).2 (z1 z);repeat(refine s_ ?_;simp)
  refine drT [13,15] (.pv 0 13 (.one 13 (.val 14 (.one 15 (.done))))) ?_;simp[hg,zd,z8,zm,zn,zo,za,zp,z1,zi,zj,z7,zb];repeat(refine s_ ?_;simp[zk,zl])
  exact lkB (ih (i+1,(k:Int) - 1,(ys.set i y).set k x,_) ⟨by simp only;omega,by simp only;omega,hst,by rw[hG,sr];simp[List.map_set,encSy]⟩ (by simp only;omega))
 have zq:m<=(i:Int):=by simpa using zg
 have hd:=hr.done (by omega);subst hd;repeat(refine s_ ?_;simp)
 rw[hG,List.map_reverse]
def Gi(v:Vst):AV:= .agg [.i v.s.1,.i v.s.2,.i v.fr,.i v.on.ty,.i v.on.num,.bool v.fst]
def f1q(V:List Vst)(L:List ((Int×Int)×List Sy))(hV:VOk V L)(i:Nat)(e:(Int×Int)×List Sy)(he:L[i]?=some e)(hl:V.length<=1000000):PC prog 128 [.list (V.map Gi),.i i] (λr=>r=LSy e.2):=by
 refine pcB func128 results128 ntmps128 ?_;simp only[Qd];have ze:i<L.length:=(zB.1 he).1;have zf:=hV.len;repeat(refine s_ ?_;simp)
 refine Qw 5 52 2 rfl ?_;simp;have hst:=SL.start [] 52 2;refine lpV (F:=λ(u:Nat×Nat×List Sy×List AObj)=>⟨[(0,.list (V.map Gi)),(1,.i u.1),(5,.sl u.2.1 2 0 u.2.2.1.length)],u.2.2.2⟩)
  (λu=>(∃d,L[u.1]?=some d/\e.2=d.2++u.2.2.1.reverse)/\u.2.2.1.length+u.1<=i/\u.2.2.2[u.2.1]?=some (.arr 52 2 (u.2.2.1.map encSy))) (λu=>u.1) ?_ (i,0,[],_) ⟨⟨e,he,by simp⟩,by simp,by simp⟩
 rintro⟨k,q,out,G⟩ ⟨⟨d,hd,z1⟩,zc,gq⟩ ih;simp only at hd z1 zc gq ih |-;have z7:k<V.length:=by have:=(zB.1 hd).1;omega
 obtain⟨v,hv⟩:∃v,V[k]?=some v:=⟨_,zI z7⟩
 have za:=hV.way k v d hv hd;have z6:(V.map Gi)[k]?=some (Gi v):=by rw[zU,hv];rfl
 have z8:∀hh,(V.map Gi)[k]'hh=Gi v:=λhh=>(zZ hh).2 z6;simp only[Gi]at z6 z8;repeat(refine s_ ?_;simp[z6,z8,z7])
 rcases za with⟨h1,h2⟩|⟨h1,h2,d',h3,h4⟩
 ·rw[h2,List.nil_append]at z1;rw[h1];refine Qa rfl (λh=>by simp at h) (λ_=>?_);repeat(refine s_ ?_;simp)
  refine Qm rfl rfl (N5 G q out gq (by omega)) rfl ?_;rintro _ _ ⟨rfl,rfl⟩;simp;have zd:∀z,(G.set q z)[q]?=some z:=λz=>Qf gq z;have zg:out.length=e.2.length:=by rw[z1];simp
  rw[z1];repeat(refine s_ ?_;simp[zd])
  rw[zT (by simp)]
 rw[h1];refine Qa rfl (λ_=>?_) (λh=>by simp at h);have zb:(out.map encSy).length=out.length:=by simp
 repeat(refine s_ ?_;simp[z6,z8,z7])
 refine apS T26 T52 ?_;simp[Qb gq,Qg gq,zb];refine⟨by simp[Wo,Qb gq,Qg gq,zb]<;>omega,?_⟩;repeat(refine s_ ?_;simp[z6,z8,z7])
 refine lkA [(0,.list (V.map Gi)),(1,.i v.fr),(5,.sl (G.length+1) 2 0 (out++[v.on]).length)] ?_;refine ih (v.fr,G.length+1,out++[v.on],_) ⟨⟨d',h3,by rw[z1,h4];simp⟩,by simp;omega,?_⟩ h2;simp only;rw[zF (by simp)];simp[encSy]
end
section
open Go.Maps Go.RowKit
def w28(x y:Int):(if x<y then y else x)=max x y:=by omega
def u23:Option Int->AV
 |some n=> .tup [.i n,.bool true]
 |none=> .tup [.i 0,.bool false]
def k00(l m:List Iv)(hl:l.length<=1000000000)(hm:m.length<=1000000000):PC prog 183 [LIv l,LIv m] (λr=>r=u23 (Ze l m)):=by
 refine pcB func183 results183 ntmps183 ?_;simp only[Qd];obtain⟨R,hR⟩:∃R,Ze l m=R:=⟨_,rfl⟩
 rw[hR];repeat(refine s_ ?_;simp)
 refine lpV (F:=λ(u:Nat×Nat)=>⟨[(0,LIv l),(1,LIv m),(6,.i u.1),(7,.i u.2)],[]⟩)
  (λu=>u.1<=l.length/\u.2<=m.length/\Ze (l.drop u.1) (m.drop u.2)=R) (λu=>(l.length - u.1)+(m.length - u.2)) ?_ (0,0) ⟨xA _,xA _,by simpa using hR⟩
 rintro⟨i,k⟩ ⟨hi,hk,hI⟩ ih;simp only at hi hk hI ih |-;by_cases h1:i<l.length
 ·by_cases h2:k<m.length
  ·have hw:=wz i (by omega);have z1:=wz k (by omega);rw[wD h1,wD h2,y15]at hI;have e1:l[i]?=some l[i]:=zI h1;have e2:m[k]?=some m[k]:=zI h2;repeat(refine s_ ?_;simp[h1,h2])
   refine Qa rfl (λ_=>?_) (λh=>by simp[h1,h2]at h);repeat(refine s_ ?_;simp)
   refine drT [] (.pv 0 12 (.done)) ?_;simp[h1,h2];repeat(refine s_ ?_;simp)
   refine drT [] (.pv 0 13 (.done)) ?_;simp[h1,h2];refine Qa rfl (λh=>?_) (λh=>?_)
   ·have hle:max l[i].lo m[k].lo<=min l[i].hi m[k].hi:=by simp at h;omega
    rw[if_pos hle]at hI;rw[<-hI];repeat(refine s_ ?_;simp)
    rw[w28];rfl
   have hle:¬max l[i].lo m[k].lo<=min l[i].hi m[k].hi:=by simp at h;omega
   rw[if_neg hle]at hI;repeat(refine s_ ?_;simp)
   refine drT [] (.pv 0 11 (.done)) ?_;simp[h1,h2];refine Qa rfl (λh=>?_) (λh=>?_)
   ·rw[if_pos (by simpa using h)]at hI;repeat(refine s_ ?_;simp[hw])
    exact lkB (ih (i+1,k) ⟨by omega,hk,by rw[wD h2];exact hI⟩ (by simp;omega))
   rw[if_neg (by simpa using h)]at hI;repeat(refine s_ ?_;simp[z1])
   exact lkB (ih (i,k+1) ⟨hi,by omega,by rw[wD h1];exact hI⟩ (by simp;omega))
  have h3:k=m.length:=by omega
  subst h3;repeat(refine s_ ?_;simp[h1])
  refine Qa rfl (λh=>by simp at h) (λ_=>?_);repeat(refine s_ ?_;simp)
  rw[xX,wD h1,q0c]at hI;rw[<-hI];rfl
 have h3:i=l.length:=by omega
 subst h3;repeat(refine s_ ?_;simp)
 refine Qa rfl (λh=>by simp at h) (λ_=>?_);repeat(refine s_ ?_;simp)
 rw[xX,v0f]at hI;rw[<-hI];rfl
def Ku:Option Sy->AV
 |some x=> .tup [encSy x,.bool true]
 |none=> .tup [encSy ⟨0,0⟩,.bool false]
def d1l(p q:Prd)(f t:Nat):lqB p q (f+1) t=match Ze (p.getD t []) (q.getD t [])with|some n=>some ⟨t,n⟩|none=>lqB p q f (t+1):=rfl
attribute [local irreducible] lqB Re
def S8(T:Nat)(p q:Prd)(hp:PWf T p)(hq:PWf T q)(z7:∀s∈p,s.length<=1000000000)(z8:∀s∈q,s.length<=1000000000)(hT:T<=1000):PC prog 120 [encP p,encP q] (λr=>r=Ku (Re p q)):=by
 refine pcB func120 results120 ntmps120 ?_;simp only[Qd];simp only[encP];have zd:=hp.1;have ze:=hq.1;obtain⟨R,hR⟩:∃R,Re p q=R:=⟨_,rfl⟩
 rw[hR];rw[<-q3p hp hq]at hR;repeat(refine s_ ?_;simp)
 refine Qr p.length (λi=>lqB p q (T - i) i=R) (λi=>[(2,.vptr 0 0),(3,.vptr 1 0),(4,.vptr 2 0),(11,.i p.length),(12,.i i)]) (λ_=>[.vars [.list (p.map encL)],.vars [.list (q.map encL)],.vars [.i 0,.i 0]]) rfl (by simp) (by simp) (by simp) (by simp) (by simpa using hR) ?_;intro i hi hI ih;repeat(refine s_ ?_;simp)
 refine Qa rfl (λza=>?_) (λzb=>?_)
 ·have z1:i<p.length:=by simpa using za
  have z6:i<q.length:=by omega
  have hw:=wz i (by omega);rw[show T - i=(T - (i+1))+1 by omega,d1l,Ef z1,Ef z6]at hI;repeat(refine s_ ?_;simp)
  refine drT [] (.pv 0 10 (.one 10 (.pv 11 5 (.done)))) ?_;simp[z1,z6];refine pcL (k00 p[i] q[i] (z7 _ (zL z1)) (z8 _ (zL z6))) ?_;simp;cases hc:Ze p[i] q[i]with
  |some n=>
   rw[hc]at hI;simp[u23];repeat(refine s_ ?_;simp)
   refine Qk rfl ?_;repeat(refine s_ ?_;simp)
   rw[<-hI];rfl
  |none=>
   rw[hc]at hI;simp[u23];repeat(refine s_ ?_;simp)
   refine Qk rfl ?_;repeat(refine s_ ?_;simp[hw])
   refine Qt _ (ih z1 hI) rfl (by simp) ?_ (by simp) (by simp);simp
 have zc:i=p.length:=by simp at zb;omega
 subst zc;repeat(refine s_ ?_;simp)
 rw[show T - p.length=0 by omega]at hI;rw[<-hI];unfold lqB;rfl
def j0p(x y:Sy):PC prog 182 [encSy x,encSy y] (λr=>r= .bool (L5 x y)):=by
 refine pcB func182 results182 ntmps182 ?_;simp only[Qd];simp only[encSy,L5];by_cases h1:x.ty<y.ty
 ·repeat(refine s_ ?_;simp[h1])
 by_cases h2:x.ty=y.ty
 ·repeat(refine s_ ?_;simp[h1,h2])
 have hb:(x.ty==y.ty)=false:=by simpa using h2
 repeat(refine s_ ?_;simp[h1,h2,hb])
end
section
open Go.Maps Go.RowKit
def j1r:Option Int->AV
 |some m=> .tup [.i m,.bool true]
 |none=> .tup [.i 0,.bool false]
def c11(l:List Iv)(n:Int):PC prog 281 [LIv l,.i n] (λr=>r=j1r (f06 l n)):=by
 refine pcB func281 results281 ntmps281 ?_;simp only[Qd];refine Y5 0 rfl (λhlen=>?_);rw[yE]at hlen;obtain⟨R,hR⟩:∃R,f06 l n=R:=⟨_,rfl⟩
 rw[hR];repeat(refine s_ ?_;simp)
 refine Qr l.length (λj=>f06 (l.drop j) n=R) (λj=>[(1,.i n),(8,LIv l),(9,.i l.length),(10,.i j)]) (λ_=>[]) rfl (by simp) (by simp) (by simp) (by simp) (by simpa using hR) ?_;intro j hj hI ih;repeat(refine s_ ?_;simp)
 refine Qa rfl (λza=>?_) (λzb=>?_)
 ·have z1:j<l.length:=by simpa using za
  have hw:=wz j (by omega);rw[Eh z1,f06]at hI;have z7:(l.map encIv)[j]?=some (encIv l[j]):=by simp[z1]
  have z8:∀hh,(l.map encIv)[j]'hh=encIv l[j]:=λhh=>by simp
  generalize l[j]=x at *;simp only[encIv]at z7 z8
  repeat(refine s_ ?_;simp[z7,z8,z1])
  refine Qa rfl (λh=>?_) (λh=>?_)
  ·rw[if_pos (by simpa using h)]at hI;subst hI;repeat(refine s_ ?_;simp)
   simp only[j1r,w28]
  rw[if_neg (by simpa using h)]at hI;repeat(refine s_ ?_;simp[hw])
  refine Qt _ (ih z1 hI) rfl (by simp) ?_ (by simp) (by simp);simp
 have z6:j=l.length:=by simp at zb;omega
 subst z6;rw[xX]at hI;subst hI;repeat(refine s_ ?_;simp)
 rfl
def bdL(l:List Iv):Prop:=∀x∈l,-1099511627776<=x.lo/\x.hi<=1099511627776
def k0n(l:List Iv)(n:Int)(hb:bdL l):PC prog 282 [LIv l,.i n] (λr=>r= .i (x0b l n)):=by
 refine pcB func282 results282 ntmps282 ?_;simp only[Qd];refine Y5 0 rfl (λhlen=>?_);rw[yE]at hlen;obtain⟨R,hR⟩:∃R,x0b l n=R:=⟨_,rfl⟩
 rw[hR];repeat(refine s_ ?_;simp)
 refine lpV (F:=λ(u:Nat×Int×List AObj)=>⟨[(1,.i u.2.1),(7,LIv l),(8,.i l.length),(9,.i u.1)],u.2.2⟩)
  (λu=>u.1<=l.length/\x0b (l.drop u.1) u.2.1=R) (λu=>l.length - u.1) ?_ (0,n,[]) ⟨xA _,by simpa using hR⟩
 clear hR;rintro⟨j,c,G⟩ ⟨hj,hI⟩ ih;simp only at hj hI ih |-;repeat(refine s_ ?_;simp)
 refine Qa rfl (λzb=>?_) (λzc=>?_)
 ·have z1:j<l.length:=by simpa using zb
  have hw:=wz j (by omega);rw[Eh z1,x0b]at hI;have z6:(l.map encIv)[j]?=some (encIv l[j]):=by simp[z1]
  have z7:∀hh,(l.map encIv)[j]'hh=encIv l[j]:=λhh=>by simp
  have hx:=hb _ (zL z1);generalize l[j]=x at *;simp only[encIv]at z6 z7
  by_cases h1:x.lo<=c
  ·have d1:decide (x.lo<=c)=true:=by simpa using h1
   repeat(refine s_ ?_;simp[z6,z7,z1,d1])
   refine Qa rfl (λh=>?_) (λh=>?_)
   ·have h2:c<=x.hi:=by simpa using h
    rw[if_pos ⟨h1,h2⟩]at hI;have z8:IntKind.i64.wrap (x.hi+1)=x.hi+1:=wrap_i64 _ (by omega) (by omega);repeat(refine s_ ?_;simp[z8,hw])
    exact lkB (ih (j+1,x.hi+1,_) ⟨by simp only;omega,hI⟩ (by simp only;omega))
   have h2:¬c<=x.hi:=by simpa using h
   rw[if_neg (λk=>h2 k.2)]at hI;repeat(refine s_ ?_;simp[hw])
   exact lkB (ih (j+1,c,_) ⟨by simp only;omega,hI⟩ (by simp only;omega))
  have d1:decide (x.lo<=c)=false:=by simpa using h1
  rw[if_neg (λk=>h1 k.1)]at hI;repeat(refine s_ ?_;simp[z6,z7,z1,d1])
  refine Qa rfl (λh=>by simp at h) (λh=>?_);repeat(refine s_ ?_;simp[hw])
  exact lkB (ih (j+1,c,_) ⟨by simp only;omega,hI⟩ (by simp only;omega))
 have za:j=l.length:=by simp at zc;omega
 subst za;rw[xX]at hI;subst hI;repeat(refine s_ ?_;simp)
 rfl
def k1h:Option Int->AV
 |some m=> .tup [.i m,.bool (decide (m<=1099511627776))]
 |none=> .tup [.i 0,.bool false]
def c29(O:List (List Iv)):Option Int->Option Int
 |some m=>some (c0d O m)
 |none=>none
def x23(I O:List (List Iv))(n:Int):w2m I O n=c29 O (d0m I n):=by unfold w2m c29;cases d0m I n<;>rfl
def v0o{t:Nat}{ps:List Prd}{j:Nat}(h:j<ps.length):Ff t (ps.drop j)=ps[j].getD t []::Ff t (ps.drop (j+1)):=by unfold Ff;rw[Eh h];rfl
def f2y{T:Nat}{p:Prd}(h:PCk T p){s:List Iv}(hs:s∈p):bdL s:=λx hx=>by obtain⟨i,hi,rfl⟩:=yX hx;have:=(h.2 s hs).iv hi;omega
def c0h{p:Prd}{t:Nat}(h:t<p.length):p.getD t []=p[t]:=by simp[yL,h]
def Br{T:Nat}{p:Prd}(h:PCk T p){t:Nat}(ht:t<T):(p.map encL)[t]?=some (encL (p.getD t []))/\p.getD t []∈p:=by
 have hl:t<p.length:=by rw[h.1];exact ht
 rw[c0h hl];exact⟨by simp[hl],zL hl⟩
attribute [local irreducible] f06 x0b
def d1n(T:Nat)(ins outs:List Prd)(zj:∀p∈ins,PCk T p)(zc:∀p∈outs,PCk T p)(t:Nat)(ht:t<T)(n:Int):PC prog 233 [.i n,.i t,LP ins,LP outs] (λr=>r=k1h (w2m (Ff t ins) (Ff t outs) n)):=by
 refine pcB func233 results233 ntmps233 ?_;simp only[Qd];refine Y5 2 rfl (λhlen=>?_);refine Y5 3 rfl (λz7=>?_);rw[yE]at hlen z7;obtain⟨R,hR⟩:∃R,w2m (Ff t ins) (Ff t outs) n=R:=⟨_,rfl⟩
 rw[hR];rw[x23]at hR;repeat(refine s_ ?_;simp)
 refine lpV (F:=λ(u:Nat×Int×List AObj)=>⟨[(0,.i u.2.1),(1,.i t),(3,LP outs),(16,LP ins),(17,.i ins.length),(18,.i u.1)],u.2.2⟩)
  (λu=>u.1<=ins.length/\c29 (Ff t outs) (d0m (Ff t (ins.drop u.1)) u.2.1)=R) (λu=>ins.length - u.1) ?_ (0,n,[]) ⟨xA _,by simpa using hR⟩
 clear hR;rintro⟨j,c,G⟩ ⟨hj,hI⟩ ih;simp only at hj hI ih |-;repeat(refine s_ ?_;simp)
 refine Qa rfl (λzd=>?_) (λze=>?_)
 ·have z1:j<ins.length:=by simpa using zd
  have hw:=wz j (by omega);rw[v0o z1,d0m]at hI;have z8:(ins.map encP)[j]?=some (encP ins[j]):=by simp[z1]
  have za:∀hh,(ins.map encP)[j]'hh=encP ins[j]:=λhh=>by simp
  have hp:=zj _ (zL z1);generalize ins[j]=p at *
  obtain⟨zb,zh⟩:=Br hp ht;have zf:∀hh,(p.map encL)[t]'hh=encL (p.getD t []):=λhh=>(zZ hh).2 zb;have zg:t<p.length:=by rw[hp.1];exact ht
  generalize p.getD t []=s at *;simp only[encP]at z8 za
  repeat(refine s_ ?_;simp[z8,za,z1,zb,zf,zg])
  refine pcL (c11 s c) ?_;simp;cases hf:f06 s c with
  |none=>
   rw[hf]at hI;simp only at hI;subst hI;simp[j1r];repeat(refine s_ ?_;simp)
   refine Qa rfl (λ_=>?_) (λh=>by simp at h);repeat(refine s_ ?_;simp)
   rfl
  |some m=>
   rw[hf]at hI;simp only at hI;simp[j1r];repeat(refine s_ ?_;simp)
   refine Qa rfl (λh=>by simp at h) (λ_=>?_);repeat(refine s_ ?_;simp[hw])
   exact lkB (ih (j+1,m,_) ⟨by simp only;omega,hI⟩ (by simp only;omega))
 have z6:j=ins.length:=by simp at ze;omega
 subst z6;rw[xX]at hI;simp only[Ff,wG,d0m]at hI;clear ih;repeat(refine s_ ?_;simp)
 have zi:some (c0d (Ff t outs) c)=R:=hI;refine lpV (F:=λ(u:Nat×Int×List AObj)=>⟨[(0,.i u.2.1),(1,.i t),(36,LP outs),(37,.i outs.length),(38,.i u.1)],u.2.2⟩)
  (λu=>u.1<=outs.length/\some (c0d (Ff t (outs.drop u.1)) u.2.1)=R) (λu=>outs.length - u.1) ?_ (0,c,G) ⟨xA _,by simpa using zi⟩
 clear hI zi;clear G c;rintro⟨j,c,G⟩ ⟨hj,hI⟩ ih;simp only at hj hI ih |-;repeat(refine s_ ?_;simp)
 refine Qa rfl (λzd=>?_) (λze=>?_)
 ·have z1:j<outs.length:=by simpa using zd
  have hw:=wz j (by omega);rw[v0o z1,c0d]at hI;have z8:(outs.map encP)[j]?=some (encP outs[j]):=by simp[z1]
  have za:∀hh,(outs.map encP)[j]'hh=encP outs[j]:=λhh=>by simp
  have hp:=zc _ (zL z1);generalize outs[j]=p at *
  obtain⟨zb,zh⟩:=Br hp ht;have zf:∀hh,(p.map encL)[t]'hh=encL (p.getD t []):=λhh=>(zZ hh).2 zb;have zg:t<p.length:=by rw[hp.1];exact ht
  have zk:=f2y hp zh;generalize p.getD t []=s at *;simp only[encP]at z8 za
  repeat(refine s_ ?_;simp[z8,za,z1,zb,zf,zg])
  refine pcL (k0n s c zk) ?_;simp;generalize x0b s c=m at *
  repeat(refine s_ ?_;simp[hw])
  exact lkB (ih (j+1,m,_) ⟨by simp only;omega,hI⟩ (by simp only;omega))
 have z6:j=outs.length:=by simp at ze;omega
 subst z6;rw[xX]at hI;simp only[Ff,wG,c0d]at hI;subst hI;repeat(refine s_ ?_;simp)
 simp[k1h]
def j2m{T:Nat}{ps:List Prd}(h:∀p∈ps,PCk T p){t:Nat}(ht:t<T):∀l∈Ff t ps,Sep l:=λl hl=>by unfold Ff at hl;obtain⟨p,hp,rfl⟩:=zO.1 hl;exact Dg ((h p hp).2 _ (Br (h p hp) ht).2)
attribute [local irreducible] w2m Ls
def M1(T:Nat)(hT:T<=1000)(ins outs:List Prd)(zi:∀p∈ins,PCk T p)(ze:∀p∈outs,PCk T p)(P:Prd)(hf:FitP T ins outs P):PC prog 193 [.i T,LP ins,LP outs] (λr=>r=Ku (Nr P)):=by
 refine pcB func193 results193 ntmps193 ?_;simp only[Qd];have hex:=λt n=>hf.mem t n;have za:=λt n h1 h2 h3 h4 h5=>hf.some (t:=t) (n:=n) h1 h2 h3 h4 h5;have zb:=hf.none;have zj:=λt h k=>hf.no (t:=t) h k;generalize Nr P=R at *
 repeat(refine s_ ?_;simp)
 refine lpV (F:=λ(t:Nat)=>⟨[(1,LP ins),(2,LP outs),(6,.vptr 0 0),(12,.i T),(13,.i t)],[.vars [.i 0,.i 0]]⟩)
  (λt=>t<=T/\∀t',t'<t->∀k,¬PM P t' k) (λt=>T - t) ?_ 0 ⟨xA _,λt' h=>absurd h (sm _)⟩
 rintro t ⟨zn,hb⟩ ih;repeat(refine s_ ?_;simp)
 refine Qa rfl (λzk=>?_) (λzl=>?_)
 ·have z6:t<T:=by simpa using zk
  have hw:=wz t (by omega);have zc:=λn=>d1n T ins outs zi ze t z6 n;have zm:=λn=>g1x (Ff t ins) (Ff t outs) n (j2m zi z6);have z7:=λn=>za t n z6 hb;have zf:=zj t;generalize Ff t ins=I at *;generalize Ff t outs=O at *
  repeat(refine s_ ?_;simp)
  refine lpV (F:=λ(n:Int)=>⟨[(1,LP ins),(2,LP outs),(6,.vptr 0 0),(8,.i t),(9,.i n),(12,.i T),(13,.i t)],[.vars [.i 0,.i 0]]⟩)
   (λn=>inR n/\∀k,inR k->Ls I O k->n<=k) (λn=>(1099511627777 - n).toNat) ?_ (-1099511627776) ⟨by unfold inR;omega,λk hk _=>hk.1⟩
  rintro n ⟨hn,z1⟩ ih2;repeat(refine s_ ?_;simp)
  refine pcL (zc n) ?_;simp;have z8:=zm n;have zd:(∀k,inR k->¬Ls I O k)->∀t',t'<t+1->∀k,¬PM P t' k:=λh t' zo k=>by
   by_cases e:t'=t
   ·subst e;exact zf h k
   exact hb t' (by omega) k
  cases hx:w2m I O n with
  |none=>
   rw[hx]at z8;simp only at z8;simp[k1h];repeat(refine s_ ?_;simp)
   refine Qa rfl (λ_=>?_) (λh=>by simp at h);repeat(refine s_ ?_;simp[hw])
   exact lkB (ih (t+1) ⟨by omega,zd λk hk hg=>z8 k (z1 k hk hg) hg⟩ (by omega))
  |some m=>
   rw[hx]at z8;simp only at z8;obtain⟨s1,s2,s3⟩:=z8;simp[k1h];by_cases hm:m<=1099511627776
   ·repeat(refine s_ ?_;simp[hm])
    refine Qa rfl (λh=>by simp[hm]at h) (λ_=>?_);repeat(refine s_ ?_;simp)
    refine Qa rfl (λh=>?_) (λh=>?_)
    ·have e:m=n:=by simpa using h
     have zg:=z7 n hn (s3 e) z1;subst zg;repeat(refine s_ ?_;simp)
     simp[Ku,encSy]
    have e:m≠n:=by simpa using h
    repeat(refine s_ ?_;simp)
    exact lkB (ih2 m ⟨⟨by have:=hn.1;omega,hm⟩,λk hk hg=>s2 k (z1 k hk hg) hg⟩ (by have:=hn.1;omega))
   repeat(refine s_ ?_;simp[hm])
   refine Qa rfl (λ_=>?_) (λh=>by simp[hm]at h);repeat(refine s_ ?_;simp[hw])
   exact lkB (ih (t+1) ⟨by omega,zd λk hk hg=>hm (Int.le_trans (s2 k (z1 k hk hg) hg) hk.2)⟩ (by omega))
 have zh:t=T:=by simp at zl;omega
 subst zh;have zg:=zb hb;subst zg;repeat(refine s_ ?_;simp)
 simp[Ku,encSy]
end
section
open Go.Maps Go.RowKit
section
variable {P:Program} [Env P] {nt k:Nat} {ops:Array Oper} {o:Oper} {R:AS->Prop}
def w0g{wr:Bool}{sl:List (Nat×AV)}{H:List AObj}(i:Nat){e c:Nat}{xs:List AV}(hi:H[i]?=some (.arr e c xs))(h:Q7 P nt k wr ops o ⟨sl,H.set i (.arr e c (xs.map AV.nrm))⟩ R):Q7 P nt k wr ops o ⟨sl,H⟩ R:=
 λC a w K Q hs=>h C a w K Q (hs.swap hi rfl (λ_ _=>Ug.nrmArr))
end
def Rm(s:Int):Option Mv->AV
 |some m=>encMv m
 |none=> .agg [.i s,.i (-1),.list []]
def v0m{a:Aut}{s:Int}{j:Nat}(h:j<a.mv.length):(a.mv.take (j+1)).filter (λm=>decide (m.src=s))=(a.mv.take j).filter (λm=>decide (m.src=s))++(if a.mv[j].src=s then [a.mv[j]]else []):=by
 rw[zR h,wZ]
 congr 1
 by_cases e:a.mv[j].src=s<;>simp[e]
def w3a(a:Aut)(s:Int)(j:Nat):((a.mv.take j).filter λm=>decide (m.src=s)).length<=a.mv.length:=yP (yW _ _) (by rw[xR];omega)
def K1(a:Aut)(s:Int)(zm:a.mv.length<=1000000):PC prog 191 [encA a,.i s] (λr=>r= .list ((Ec a s).map (Rm s))):=by
 refine pcB func191 results191 ntmps191 ?_;simp only[Qd];simp only[encA];refine Wv 0 2 rfl rfl (λhlen=>?_);rw[yE]at hlen;repeat(refine s_ ?_;simp)
 have zc:=λj (h:j<a.mv.length)=>v0m (a:=a) (s:=s) h;have zd:=λj=>w3a a s j;refine Qw 5 73 3 rfl ?_;simp;obtain⟨K,hK⟩:∃K,K=[AObj.vars (Qj a)]:=⟨_,rfl⟩
 have hst:=SL.start K 73 3;refine lpV (F:=λ(u:Nat×Nat×List AObj)=>⟨[(1,.i s),(5,.sl u.2.1 3 0 ((a.mv.take u.1).filter λm=>decide (m.src=s)).length),(9,.list (a.mv.map encMv)),(10,.i a.mv.length),(11,.i u.1)],u.2.2⟩)
  (λu=>u.1<=a.mv.length/\SL K u.2.2 u.2.1 73 3 (((a.mv.take u.1).filter λm=>decide (m.src=s)).map encMv)) (λu=>a.mv.length - u.1) ?_ (0,1,_) ⟨xA _,by rw[hK]at hst |-;simpa using hst⟩
 rintro⟨j,q,G⟩ ⟨hj,g⟩ ih;simp only at hj g ih |-;have z8:=zd j;repeat(refine s_ ?_;simp)
 refine Qa rfl (λze=>?_) (λzf=>?_)
 ·have z1:j<a.mv.length:=by simpa using ze
  have hw:=wz j (by omega);have zg:=zc j z1;have z6:=λq' G'=>ih (j+1,q',G');simp only[zg]at z6;have za:(a.mv.map encMv)[j]?=some (encMv a.mv[j]):=by simp[z1]
  have zb:∀hh,(a.mv.map encMv)[j]'hh=encMv a.mv[j]:=λhh=>by simp
  generalize a.mv[j]=m at *;generalize (a.mv.take j).filter (λm=>decide (m.src=s))=P at *
  have z7:(P.map encMv).length=P.length:=by simp
  simp only[encMv]at za zb;repeat(refine s_ ?_;simp[za,zb,z1])
  refine Qa rfl (λh=>?_) (λh=>?_)
  ·have e:m.src=s:=by simpa using h
   rw[if_pos e]at z6;repeat(refine s_ ?_;simp)
   refine apS T23 T73 ?_;simp[Qb g.arr,Qg g.arr,z7];refine⟨by simp[Wo,Qb g.arr,Qg g.arr,z7]<;>omega,?_⟩;repeat(refine s_ ?_;simp[hw])
   refine lkA [(1,.i s),(5,.sl (G.length+2) 3 0 (P++[m]).length),(9,.list (a.mv.map encMv)),(10,.i a.mv.length),(11,.i (j+1:Nat))] ?_;have:=z6 (G.length+2) _ ⟨by omega,g.put [AObj.vars [.i m.src,.i m.dst,.list (m.on.map encL)],AObj.arr 73 3 [encMv m]] ((P++[m]).map encMv) rfl⟩ (by omega);simpa[encMv]using this
  have e:m.src≠s:=by simpa using h
  rw[if_neg e,yV]at z6;repeat(refine s_ ?_;simp[hw])
  exact lkB (z6 q _ ⟨by omega,g.add _⟩ (by omega))
 have zh:j=a.mv.length:=by simp at zf;omega
 subst zh;have zi:a.mv.take a.mv.length=a.mv:=zY;rw[zi]at g z8 |-;have zj:a.mv.filter (λm=>decide (m.src=s))=mvS a s:=rfl;have zk:(Ec a s).map (Rm s)=(mvS a s).map encMv++[.agg [.i s,.i (-1),.list []]]:=by unfold Ec;simp[Rm]
 rw[zk];rw[zj]at g z8 |-;generalize mvS a s=P at *
 have z7:(P.map encMv).length=P.length:=by simp
 repeat(refine s_ ?_;simp)
 refine w0g G.length (e:=73) (c:=3) (xs:=[.agg [.i s,.i (-1),.nils]]) (by simp) ?_;have zl:∀u z:AObj,(G++[u]).set G.length z=G++[z]:=λu z=>by rw[List.set_append_right _ _ (by simp)];simp
 simp[zl];refine apS T23 T73 ?_;simp[Qb g.arr,Qg g.arr,z7];refine⟨by simp[Wo,Qb g.arr,Qg g.arr,z7]<;>omega,?_⟩;repeat(refine s_ ?_;simp)
 rw[zT (by simp)]
def q08(a:Aut)(s:Int)(i:Nat)(o:Option Mv)(h:(Ec a s)[i]?=some o)(hl:a.mv.length<=1000000):PC prog 192 [.list ((Ec a s).map (Rm s)),.i i] (λr=>r= .tup [LP (B1 o),LP (Fe a s o)]):=by
 refine pcB func192 results192 ntmps192 ?_;simp only[Qd];have zr:(mvS a s).length<=a.mv.length:=yW _ _;have zh:(Ec a s).length=(mvS a s).length+1:=by unfold Ec;simp
 have zi:i<(Ec a s).length:=(zB.1 h).1;have zj:IntKind.i64.wrap ((mvS a s).length:Int)=(mvS a s).length:=wrap_i64 _ (by omega) (by omega);repeat(refine s_ ?_;simp[zh,zj])
 refine Qa rfl (λzk=>?_) (λzl=>?_)
 ·have z7:i<(mvS a s).length:=by simpa using zk
  obtain⟨m,rfl,z6⟩:∃m,o=some m/\((Ec a s).map (Rm s))[i]?=some (encMv m):=by unfold Ec at h |-;rw[zH (by simpa using z7)]at h;rw[zU,zH (by simpa using z7),h];rw[zU]at h;obtain⟨m,_,rfl⟩:=zQ.1 h;exact⟨m,rfl,rfl⟩
  have z8:∀hh,((Ec a s).map (Rm s))[i]'hh=encMv m:=λhh=>(zZ hh).2 z6;generalize Ec a s=L at *;simp only[encMv]at z6 z8
  repeat(refine s_ ?_;simp[z6,z8,zi])
  exact⟨rfl,rfl⟩
 have zm:i=(mvS a s).length:=by simp at zl;omega
 subst zm;obtain rfl:o=none:=by unfold Ec at h;rw[zF (by simp)]at h;simpa using h.symm
 have zn:((Ec a s).map (Rm s)).take (mvS a s).length=(mvS a s).map encMv:=by unfold Ec;rw[yR,List.take_append_of_le_length (by simp),zT (by simp)];simp[Rm]
 have hle:(mvS a s).length<=(Ec a s).length:=by omega
 repeat(refine s_ ?_;simp[hle])
 rw[if_pos (λo ho=>by cases o<;>rfl)];simp;rw[zn];have za:min (mvS a s).length (Ec a s).length=(mvS a s).length:=by omega
 rw[za];have zb:Fe a s none=(mvS a s).map (·.on):=rfl;rw[zb];generalize mvS a s=P at *;refine Qw 5 70 1 rfl ?_
 simp;repeat(refine s_ ?_;simp)
 refine lpV (F:=λ(u:Nat×Nat×List AObj)=>⟨[(4,.nils),(5,.sl u.2.1 1 0 u.1),(21,.list (P.map encMv)),(22,.i P.length),(23,.i u.1)],u.2.2⟩)
  (λu=>u.1<=P.length/\u.2.2[u.2.1]?=some (.arr 70 1 ((P.take u.1).map λm=>encP m.on))) (λu=>P.length - u.1) ?_ (0,0,_) ⟨xA _,by simp⟩
 rintro⟨j,q,G⟩ ⟨hj,gq⟩ ih;simp only at hj gq ih |-;repeat(refine s_ ?_;simp)
 refine Qa rfl (λzc=>?_) (λzd=>?_)
 ·have z1:j<P.length:=by simpa using zc
  have zo:=wz j (by omega);have ze:(P.take (j+1)).map (λm=>encP m.on)=(P.take j).map (λm=>encP m.on)++[encP P[j].on]:=by rw[zR z1,yR];rfl
  have zf:=λq' G'=>ih (j+1,q',G');simp only[ze]at zf;have z6:(P.map encMv)[j]?=some (encMv P[j]):=by simp[z1]
  have z8:∀hh,(P.map encMv)[j]'hh=encMv P[j]:=λhh=>by simp
  have zg:((P.take j).map λm=>encP m.on).length=j:=by simp;omega
  clear ze;generalize (P.take j).map (λm=>encP m.on)=acc at *
  generalize P[j]=m at *;simp only[encMv]at z6 z8
  repeat(refine s_ ?_;simp[z6,z8,z1])
  refine apS T87 T70 ?_;simp[Qb gq,Qg gq,zg];refine⟨by simp[Wo,Qb gq,Qg gq,zg]<;>omega,?_⟩;repeat(refine s_ ?_;simp[zo])
  refine lkA [(4,.nils),(5,.sl (G.length+2) 1 0 (j+1)),(21,.list (P.map encMv)),(22,.i P.length),(23,.i (j+1:Nat))] ?_;refine zf (G.length+2) _ ⟨by omega,?_⟩ (by omega);rw[zF (by simp)];simp[encP]
 have zp:j=P.length:=by simp at zd;omega
 subst zp;rw[zY]at gq;have zq:P.map (λm=>encP m.on)=(P.map (·.on)).map encP:=by rw[vE];rfl
 rw[zq]at gq;repeat(refine s_ ?_;simp[gq])
 refine⟨rfl,?_⟩;rw[zT (by simp)]
end
section
open Go.Maps Go.RowKit
attribute [simp] T25 T35
def v0e(a b:Aut):PC prog 126 [encA a,encA b] (λr=>r= .i (Em a b)):=by
 refine pcB func126 results126 ntmps126 ?_;simp only[Qd];have cA:=Tm a;have cB:=Tm b;simp only[encA]at cA cB |-;obtain⟨R,hR⟩:∃R,Em a b=R:=⟨_,rfl⟩
 rw[hR];unfold Em at hR;have w1:IntKind.i64.wrap 1=1:=by decide
 have w2:IntKind.i64.wrap 2=2:=by decide
 repeat(refine s_ ?_;simp)
 refine Qr 2 (λj=>j=0\/Wu a=0/\(j=1\/Wu b=0)) (λj=>[(2,.vptr 0 0),(3,.vptr 1 0),(10,.sl 2 3 0 2),(11,.i (2:Nat)),(12,.i j)]) (λ_=>[.vars (Qj a),.vars (Qj b),.arr 25 3 [.agg (Qj a),.agg (Qj b)]]) rfl (by simp) (by simp) (by simp) (by simp) (.inl rfl) ?_;intro j hj hI ih;repeat(refine s_ ?_;simp)
 refine Qa rfl (λz8=>?_) (λza=>?_)
 ·have z1:j<2:=by simp at z8;omega
  obtain rfl|rfl:j=0\/j=1:=by omega
  ·repeat(refine s_ ?_;simp)
   refine pcL (cA) ?_;simp;repeat(refine s_ ?_;simp)
   refine Qa rfl (λh=>?_) (λh=>?_)
   ·rw[if_pos (by simpa using h)]at hR;subst hR;repeat(refine s_ ?_;simp)
   repeat(refine s_ ?_;simp[w1])
   refine Qt _ (ih z1 (.inr ⟨by simpa using h,.inl rfl⟩)) rfl (by simp) ?_ (by simp) (by simp);simp
  have h0:Wu a=0:=by rcases hI with h|h;exact absurd h (by decide);exact h.1
  rw[if_neg (by simpa using h0)]at hR;repeat(refine s_ ?_;simp)
  refine pcL (cB) ?_;simp;repeat(refine s_ ?_;simp)
  refine Qa rfl (λh=>?_) (λh=>?_)
  ·rw[if_pos (by simpa using h)]at hR;subst hR;repeat(refine s_ ?_;simp)
  repeat(refine s_ ?_;simp[w2])
  refine Qt _ (ih z1 (.inr ⟨h0,.inr (by simpa using h)⟩)) rfl (by simp) ?_ (by simp) (by simp);simp
 have z6:j=2:=by simp at za;omega
 subst z6;have z7:Wu a=0/\Wu b=0:=by
  rcases hI with h|⟨h1,h2⟩
  ·exact absurd h (by decide)
  exact⟨h1,h2.elim (λh=>absurd h (by decide)) id⟩
 rw[if_neg (by simpa using z7.1),if_neg (by simpa using z7.2)]at hR;repeat(refine s_ ?_;simp)
 refine Qa rfl (λh=>?_) (λh=>?_)
 ·rw[if_pos (by simpa using h)]at hR;subst hR;repeat(refine s_ ?_;simp)
 rw[if_neg (by simpa using h)]at hR;subst hR;repeat(refine s_ ?_;simp)
def v0j{n j:Nat}(h:j<=n){p:Int->Bool}(hp:∀i:Nat,i<j->p i=true)(hn:j=n\/p j=false):(W9 n).all p=decide (j=n):=by
 rw[x_,zX,decide_eq_true_eq];constructor
 ·intro k;rcases hn with e|e
  ·exact e
  by_cases e2:j=n
  ·exact e2
  have:=k j (Wy.2 ⟨by omega,by omega⟩);rw[e]at this;cases this
 intro e z hz;obtain⟨h0,h1⟩:=Wy.1 hz;obtain⟨i,rfl⟩:=Int.eq_ofNat_of_zero_le h0;exact hp i (by omega)
def onF(a:Aut)(s:Int)(j:Nat):List Prd:=((a.mv.take j).filter λm=>decide (m.src=s)).map (·.on)
def g1f(a:Aut)(s:Int):onF a s 0=[]:=by simp[onF]
def k1v(a:Aut)(s:Int){j:Nat}(h:j<a.mv.length):onF a s (j+1)=onF a s j++(if a.mv[j].src=s then [a.mv[j].on]else []):=by
 unfold onF;rw[v0m h,yR]
 congr 1
 split<;>rfl
def u2q(a:Aut)(s:Int):onF a s a.mv.length=Fe a s none:=by unfold onF;rw[zY];rfl
def u28(a:Aut)(s:Int)(j:Nat):(onF a s j).length<=a.mv.length:=by unfold onF;rw[yE];exact w3a a s j
def z2h(y:Option Sy):Ku y= .tup [.agg [.i (y.getD ⟨0,0⟩).ty,.i (y.getD ⟨0,0⟩).num],.bool y.isSome]:=by cases y<;>rfl
attribute [local irreducible] q26 Nr w0s onF
def v05(a:Aut)(ha:OkA a):PC prog 134 [encA a] (λr=>r= .bool (Zc a)):=by
 refine pcB func134 results134 ntmps134 ?_;simp only[Qd];have zi:=ha.fin;have zj:=ha.mvs;have hd:q26 a=(y0n a,0):=by unfold q26;rw[if_pos ((I8 a).2 ha)]
 have cD:=g2q a;rw[hd]at cD;simp only[encA]at cD |-;have hL:=λk:Int=>M1 a.types.toNat (by have:=ha.types;omega) [] (Fe a k none) (λp h=>by cases h) (λp hp=>by
  obtain⟨m,hm,rfl⟩:=zO.1 hp;exact(ha.mv m (Tf.1 hm).1).on) (w0s a k none) (z09 ha (Oa.2 (.inl rfl)))
 have zk:((a.types.toNat:Nat):Int)=a.types:=by have:=ha.types;omega
 simp only[zk,z2h]at hL;have zl:∀k,q0w a k=(Nr (w0s a k none)).isSome:=λ_=>rfl;have z8:=u2q a;have zm:Zc a=(y0n a && (W9 a.fin.length).all λs=> !q0w a s):=rfl;rw[zm];have zn:=λk j (h:j<a.mv.length)=>k1v a k h;have zo:=λk j=>u28 a k j;have hz:=g1f a;repeat(refine s_ ?_;simp)
 refine pcL (cD) ?_;simp;repeat(refine s_ ?_;simp)
 cases hsg:y0n a with
 |false=>
  repeat(refine s_ ?_;simp)
  refine Qa rfl (λ_=>?_) (λh=>by simp at h);repeat ((refine s_ ?_;simp))
 |true=>
  repeat(refine s_ ?_;simp)
  refine Qa rfl (λh=>by simp at h) (λ_=>?_);repeat(refine s_ ?_;simp)
  refine lpV (F:=λ(u:Nat×List AObj)=>⟨[(1,.vptr 0 0),(24,.i a.fin.length),(25,.i u.1)],u.2⟩)
   (λu=>u.1<=a.fin.length/\(∀i:Nat,i<u.1->(!q0w a i)=true)/\u.2[0]?=some (.vars (Qj a))) (λu=>a.fin.length - u.1) ?_ (0,_) ⟨xA _,λi h=>absurd h (sm _),rfl⟩
  rintro⟨k,G⟩ ⟨hk,hI,g0⟩ ih;simp only at hk hI g0 ih |-;repeat(refine s_ ?_;simp)
  refine Qa rfl (λzp=>?_) (λzq=>?_)
  ·have zr:k<a.fin.length:=by simpa using zp
   have hw:=wz k (by omega);have zt:=zn k;have zu:=zo k;have zv:=hL k;repeat(refine s_ ?_;simp[g0])
   refine Qw 6 70 1 rfl ?_;simp;have hst:=SL.start G 70 1;refine lpW (F:=λ(u:Nat×Nat×List AObj)=>⟨[(1,.vptr 0 0),(5,.i k),(6,.sl u.2.1 1 0 (onF a k u.1).length),(24,.i a.fin.length),(25,.i k),(29,.list (a.mv.map encMv)),(30,.i a.mv.length),(31,.i u.1)],u.2.2⟩)
    (λu=>u.1<=a.mv.length/\SL G u.2.2 u.2.1 70 1 ((onF a k u.1).map encP)) (λu=>a.mv.length - u.1) ?_ (0,G.length,_) ⟨xA _,by rw[hz];simpa using hst⟩ (by simp[hz])
   rintro⟨j,q,E⟩ ⟨hj,g⟩ ih2;simp only at hj g ih2 |-;have zw:=zu j;repeat(refine s_ ?_;simp)
   refine Qa rfl (λza=>?_) (λzb=>?_)
   ·have z1:j<a.mv.length:=by simpa using za
    have ze:=wz j (by omega);have zx:=zt j z1;have z6:=λq' G'=>ih2 (j+1,q',G');simp only[zx]at z6;have zf:(a.mv.map encMv)[j]?=some (encMv a.mv[j]):=by simp[z1]
    have zg:∀hh,(a.mv.map encMv)[j]'hh=encMv a.mv[j]:=λhh=>by simp
    generalize a.mv[j]=m at *;generalize onF a k j=P at *
    have z7:(P.map encP).length=P.length:=by simp
    simp only[encMv]at zf zg;repeat(refine s_ ?_;simp[zf,zg,z1])
    refine Qa rfl (λh=>?_) (λh=>?_)
    ·have e:m.src=k:=by simpa using h
     rw[if_pos e]at z6;repeat(refine s_ ?_;simp)
     refine apS T87 T70 ?_;simp[Qb g.arr,Qg g.arr,z7];refine⟨by simp[Wo,Qb g.arr,Qg g.arr,z7]<;>omega,?_⟩;repeat(refine s_ ?_;simp[ze])
     refine lkA [(1,.vptr 0 0),(5,.i k),(6,.sl (E.length+2) 1 0 (P++[m.on]).length),(24,.i a.fin.length),(25,.i k),(29,.list (a.mv.map encMv)),(30,.i a.mv.length),(31,.i (j+1:Nat))] ?_;have:=z6 (E.length+2) _ ⟨by omega,g.put [AObj.vars [.i m.src,.i m.dst,.list (m.on.map encL)],AObj.arr 70 1 [encP m.on]] ((P++[m.on]).map encP) rfl⟩ (by omega);simpa[encP]using this
    have e:m.src≠k:=by simpa using h
    rw[if_neg e,yV]at z6;repeat(refine s_ ?_;simp[ze])
    exact lkB (z6 q _ ⟨by omega,g.add _⟩ (by omega))
   have zy:j=a.mv.length:=by simp at zb;omega
   subst zy;rw[z8]at g zw |-;have e0:=g.kp g0;have z7:((Fe a k none).map encP).length=(Fe a k none).length:=by simp
   have zc:((Fe a k none).map encP).take (Fe a k none).length=(Fe a k none).map encP:=zT (by simp);have zh:=zl k;generalize Nr (w0s a k none)=Y at *;generalize Fe a k none=P at *
   repeat(refine s_ ?_;simp[e0])
   refine P4 rfl rfl (by first|(simp[g.arr,zc,z7];done)|(simp[g.arr,zc,z7];rfl)) (zv) rfl ?_;rintro _ rfl;refine⟨by first|simp|rfl|trivial,?_⟩;simp[g.arr,zc,z7];cases Y with
   |some y=>
    have hf:(W9 a.fin.length).all (λs=> !q0w a s)=false:=by rw[v0j (j:=k) (by omega) hI (.inr (by rw[zh];rfl))];simp;omega
    rw[hf];repeat(refine s_ ?_;simp)
    refine Qa rfl (λ_=>?_) (λh=>by simp at h);repeat ((refine s_ ?_;simp))
   |none=>
    repeat(refine s_ ?_;simp)
    refine Qa rfl (λh=>by simp at h) (λ_=>?_);repeat(refine s_ ?_;simp[hw])
    refine lkA [(1,.vptr 0 0),(24,.i a.fin.length),(25,.i (k+1:Nat))] ?_;refine ih (k+1,_) ⟨by omega,λi hi=>?_,Qb e0 _⟩ (by omega);by_cases e:i=k
    ·subst e;rw[zh];rfl
    exact hI i (by omega)
  have zd:k=a.fin.length:=by simp at zq;omega
  subst zd;have hf:(W9 a.fin.length).all (λs=> !q0w a s)=true:=by rw[v0j (zS _) hI (.inl rfl)];simp
  rw[hf];repeat(refine s_ ?_;simp)
attribute [local irreducible] Em Zc
def Xw(a b:Aut):PC prog 69 [encA a,encA b] (λr=>r= .i (Yr a b)):=by
 refine pcB func69 results69 ntmps69 ?_;simp only[Qd];obtain⟨R,hR⟩:∃R,Yr a b=R:=⟨_,rfl⟩
 rw[hR];rw[j0s]at hR;have cB:=v0e a b;have z6:Em a b=0->OkA a/\OkA b:=λh=>⟨(E6.1 h).1,(E6.1 h).2.1⟩
 simp only[encA]at cB |-;repeat(refine s_ ?_;simp)
 refine pcL (cB) ?_;simp;repeat(refine s_ ?_;simp)
 refine Qa rfl (λh=>?_) (λh=>?_)
 ·repeat(refine s_ ?_;simp)
  have h':Em a b≠0:=by simpa using h
  rw[if_pos h']at hR;exact hR
 have h':¬Em a b≠0:=by simpa using h
 rw[if_neg h']at hR;obtain⟨ha,hb⟩:=z6 (by simpa using h);have cF:=v05 a ha;have cG:=v05 b hb;simp only[encA]at cF cG;repeat(refine s_ ?_;simp)
 refine pcL (cF) ?_;simp;cases z1:Zc a with
 |true=>
  repeat(refine s_ ?_;simp)
  refine pcL (cG) ?_;simp;cases hfb:Zc b with
  |true=>
   repeat(refine s_ ?_;simp)
   refine Qa rfl (λh=>by simp at h) (λ_=>?_);repeat(refine s_ ?_;simp)
   rw[<-hR,z1,hfb];rfl
  |false=>
   repeat(refine s_ ?_;simp)
   refine Qa rfl (λ_=>?_) (λh=>by simp at h);repeat(refine s_ ?_;simp)
   rw[<-hR,z1,hfb];rfl
 |false=>
  repeat(refine s_ ?_;simp)
  refine Wq rfl rfl ?_;simp;repeat(refine s_ ?_;simp)
  refine Qa rfl (λ_=>?_) (λh=>by simp at h);repeat(refine s_ ?_;simp)
  rw[<-hR,if_pos (.inl z1)]
def q0i(a:Aut)(s:Int)(hs:inD a s):PC prog 127 [encA a,.i s] (λr=>r= .bool (v0u a s)):=by
 refine pcB func127 results127 ntmps127 ?_;simp only[Qd];simp only[encA];unfold v0u;by_cases h1:s= -1
 ·subst h1;repeat(refine s_ ?_;simp)
 have hr:inS a s:=hs.resolve_left h1;obtain⟨k,rfl⟩:∃k:Nat,s=k:=⟨s.toNat,(A3 hr).2.symm⟩
 have hk:k<a.fin.length:=by have:=hr.2;omega
 have z1:((k:Int)== -1)=false:=by simp
 have z6:a.fin.getD k false=a.fin[k]:=by simp[yL,hk]
 repeat(refine s_ ?_;simp[z1,hk])
end
section
def k1j(H:List AObj)(n:Nat)(h0:0<n)(hn:n<=100000):FC prog 234 [.nils,.i n] H
  (λr H'=>r= .sl H.length 1 0 0/\H'=H++[.arr 70 1 []]):=by
 have z6:¬((n:Int)<0):=by omega
 have hw:IntKind.i64.wrap (n:Int)=n:=wrap_i64 _ (by omega) (by omega);refine fcB func234 results234 ntmps234 ?_;simp only[Qd];repeat(refine s_ ?_;simp)
 refine Qa rfl (λh=>?_) (λh=>?_)
 ·simp[z6]at h
 have z1:IntKind.i64.wrap 0=0:=by decide
 repeat(refine s_ ?_;simp[hw])
 refine W6 tOk rfl rfl T87 rfl rfl rfl ?_;simp[hw,z1];repeat(refine s_ ?_;simp[hw,z1])
 refine Qa rfl (λh2=>?_) (λh2=>?_)
 ·repeat(refine s_ ?_;simp[hw,z1])
  refine W6 tOk rfl rfl T87 rfl rfl rfl ?_;simp[hw,z1];refine E5 tOk rfl rfl T87 rfl T3 rfl T70 rfl (by decide) rfl (n:=n) rfl h0 (by simp;omega) (by omega) (.agg [.nils]) rfl rfl ?_;simp;refine Pq H.length 0 (Fp H _ []) ?_;simp;repeat(refine s_ ?_;simp)
 simp at h2;omega
def w14(H:List AObj):FC prog 234 [.nils,.i 0] H (λr H'=>r= .nils/\H'=H):=by
 refine fcB func234 results234 ntmps234 ?_;simp only[Qd];have z1:IntKind.i64.wrap 0=0:=by decide
 repeat(refine s_ ?_;simp)
 refine Qk rfl ?_;simp;repeat(refine s_ ?_;simp[z1])
 refine W6 tOk rfl rfl T87 rfl rfl rfl ?_;simp[z1];repeat(refine s_ ?_;simp[z1])
 refine Qk rfl ?_;simp;repeat(refine s_ ?_;simp[z1])
def P8(ls:List (List Prd)):List Prd:=ls.flatten
def Jn(ls:List (List Prd))(j:Nat)(h:j<ls.length):P8 (ls.take (j+1))=P8 (ls.take j)++ls[j]:=by unfold P8;rw[zR h,vA];simp only[List.flatten_cons,List.flatten_nil,yV]
def y0o(ls:List (List Prd))(j:Nat):(P8 (ls.take j)).length<=(P8 ls).length:=by
 conv=>rhs;rw[<-xI j ls,P8,vA,zW]
 rw[P8];omega
def Vl(ls:List (List Prd)):P8 (ls.take ls.length)=P8 ls:=by rw[zY]
def D9:P8 []=[]:=rfl
attribute [local irreducible] P8
def Xg(ls:List (List Prd))(hl:ls.length<=1000)(ht:(P8 ls).length<=100000):PC prog 194 [.list (ls.map LP)] (λr=>r=LP (P8 ls)):=by
 refine pcB func194 results194 ntmps194 ?_;simp only[Qd];repeat(refine s_ ?_;simp)
 refine Qr ls.length (λ_=>True) (λj=>[(0,.list (ls.map LP)),(3,.i (P8 (ls.take j)).length),(9,.list (ls.map LP)),(10,.i ls.length),(11,.i j)]) (λ_=>[]) rfl (by simp) (by simp[D9]) (by simp) (by simp) trivial ?_;intro j hj hI ih;repeat(refine s_ ?_;simp)
 refine Qa rfl (λz8=>?_) (λza=>?_)
 ·have z1:j<ls.length:=by simpa using z8
  have hw:=wz j (by omega);have zc:=y0o ls (j+1);have ih:=ih z1 trivial;have z7:(P8 (ls.take (j+1))).length=(P8 (ls.take j)).length+ls[j].length:=by rw[Jn ls j z1,zW]
  generalize (P8 (ls.take (j+1))).length=m at *;generalize (P8 (ls.take j)).length=k at *
  have zd:IntKind.i64.wrap ((k:Int)+ls[j].length)=m:=by rw[wrap_i64 _ (by omega) (by omega)];omega
  repeat(refine s_ ?_;simp[z1,zd])
  refine Qa rfl (λh2=>?_) (λh2=>?_)
  ·simp at h2;omega
  repeat(refine s_ ?_;simp[hw,zd])
  refine Qt _ ih rfl (by simp) ?_ (by simp) (by simp);simp
 have z6:j=ls.length:=by simp at za;omega
 subst z6;clear ih;obtain⟨n,hn⟩:∃n,(P8 ls).length=n:=⟨_,rfl⟩
 rw[Vl,hn];rcases Nat.eq_zero_or_pos n with h0|h0
 ·subst h0;repeat(refine s_ ?_;simp)
  refine Qm rfl rfl (w14 []) rfl ?_;rintro r H' ⟨rfl,rfl⟩;simp;repeat(refine s_ ?_;simp)
  refine Qw 6 70 1 rfl ?_;simp;refine lpW (F:=λ(u:Nat×Nat×List AObj)=>⟨[(6,.sl u.2.1 1 0 (P8 (ls.take u.1)).length),(25,.list (ls.map LP)),(26,.i ls.length),(27,.i u.1)],u.2.2⟩)
   (λu=>u.1<=ls.length/\u.2.2[u.2.1]?=some (.arr 70 1 ((P8 (ls.take u.1)).map encP))) (λu=>ls.length - u.1) ?_ (0,0,[.arr 70 1 []]) ⟨by simp,by simp[D9]⟩ (by simp[D9])
  rintro⟨j,q,H2⟩ ⟨hj,g1⟩ ih;simp only at hj g1 ih |-;repeat(refine s_ ?_;simp)
  refine Qa rfl (λz8=>?_) (λza=>?_)
  ·have z1:j<ls.length:=by simpa using z8
   have hw:=wz j (by omega);have zc:=y0o ls (j+1);have hs:=Jn ls j z1;have z7:(P8 (ls.take (j+1))).length=(P8 (ls.take j)).length+ls[j].length:=by rw[hs,zW]
   have zb:=λ(q':Nat) (H':List AObj) (h:H'[q']?=some (.arr 70 1 ((P8 (ls.take j)++ls[j]).map encP)))=>ih (j+1,q',H') ⟨by simp;omega,by rw[hs];exact h⟩ (by simp;omega);clear ih;simp only[hs]at zb;rw[z7]at zc;clear hs z7;generalize P8 (ls.take j)=acc at *
   repeat(refine s_ ?_;simp[z1])
   refine apS T87 T70 ?_;simp[Qb g1,Qg g1,g1];refine⟨by simp[Wo,Qb g1,Qg g1,g1]<;>omega,?_⟩;repeat(refine s_ ?_;simp[hw])
   exact Qo (sl':=[(6,.sl H2.length 1 0 (acc.length+ls[j].length)),(25,.list (ls.map LP)),(26,.i ls.length),(27,.i (j+1:Nat))]) (by
    have:=zb H2.length (H2.set q .dead++[.arr 70 1 ((acc++ls[j]).map encP)]) (by rw[zF (by simp)];simp);simpa using this) (by simp)
  have z6:j=ls.length:=by simp at za;omega
  subst z6;rw[Vl]at g1;rw[zY];repeat(refine s_ ?_;simp[g1])
  rw[zT (by simp)]
 repeat(refine s_ ?_;simp)
 refine Qm rfl rfl (k1j [] n h0 (by omega)) rfl ?_;rintro r H' ⟨rfl,rfl⟩;simp;repeat(refine s_ ?_;simp)
 refine lpW (F:=λ(u:Nat×Nat×List AObj)=>⟨[(6,.sl u.2.1 1 0 (P8 (ls.take u.1)).length),(25,.list (ls.map LP)),(26,.i ls.length),(27,.i u.1)],u.2.2⟩)
  (λu=>u.1<=ls.length/\u.2.2[u.2.1]?=some (.arr 70 1 ((P8 (ls.take u.1)).map encP))) (λu=>ls.length - u.1) ?_ (0,0,[.arr 70 1 []]) ⟨by simp,by simp[D9]⟩ (by simp[D9])
 rintro⟨j,q,H2⟩ ⟨hj,g1⟩ ih;simp only at hj g1 ih |-;repeat(refine s_ ?_;simp)
 refine Qa rfl (λz8=>?_) (λza=>?_)
 ·have z1:j<ls.length:=by simpa using z8
  have hw:=wz j (by omega);have zc:=y0o ls (j+1);have hs:=Jn ls j z1;have z7:(P8 (ls.take (j+1))).length=(P8 (ls.take j)).length+ls[j].length:=by rw[hs,zW]
  have zb:=λ(q':Nat) (H':List AObj) (h:H'[q']?=some (.arr 70 1 ((P8 (ls.take j)++ls[j]).map encP)))=>ih (j+1,q',H') ⟨by simp;omega,by rw[hs];exact h⟩ (by simp;omega);clear ih;simp only[hs]at zb;rw[z7]at zc;clear hs z7;generalize P8 (ls.take j)=acc at *
  repeat(refine s_ ?_;simp[z1])
  refine apS T87 T70 ?_;simp[Qb g1,Qg g1,g1];refine⟨by simp[Wo,Qb g1,Qg g1,g1]<;>omega,?_⟩;repeat(refine s_ ?_;simp[hw])
  exact Qo (sl':=[(6,.sl H2.length 1 0 (acc.length+ls[j].length)),(25,.list (ls.map LP)),(26,.i ls.length),(27,.i (j+1:Nat))]) (by
   have:=zb H2.length (H2.set q .dead++[.arr 70 1 ((acc++ls[j]).map encP)]) (by rw[zF (by simp)];simp);simpa using this) (by simp)
 have z6:j=ls.length:=by simp at za;omega
 subst z6;rw[Vl]at g1;rw[zY];repeat(refine s_ ?_;simp[g1])
 rw[zT (by simp)]
end
section
open Go.Maps Go.RowKit
attribute [local irreducible] z07 y0n Wu L4 q26
end
section
open Go.Maps Go.RowKit
attribute [simp] w3k q30 w3n g27 T66 T41
def Yn(a:Aut)(j k:Nat):List Mv:=(a.mv.take j).filter λm=>decide (m.src=(k:Int)) && !Ws m.on
def y1j(a:Aut)(k:Nat):Yn a a.mv.length k=Wz a k:=by simp[Yn,Wz]
def It(a:Aut)(k:Nat):Yn a 0 k=[]:=by simp[Yn]
def f0l(a:Aut){j:Nat}(h:j<a.mv.length)(k:Nat):Yn a (j+1) k=Yn a j k++(if decide (a.mv[j].src=(k:Int)) && !Ws a.mv[j].on then [a.mv[j]]else []):=by
 unfold Yn;rw[zR h,wZ]
 congr 1
 rw[List.filter_cons,List.filter_nil]
def u1t(a:Aut)(j k:Nat):(Yn a j k).length<=a.mv.length:=by unfold Yn;refine yP (yW _ _) ?_;rw[xR];omega
def Uf(l:List Mv):AV:= .list (l.map encMv)
def Ot(a:Aut):List AV:=(yQ a.fin.length).map λk:Nat=>Uf (Wz a k)
def Ww(a:Aut):List AV:=[.i a.types,.list (a.fin.map .bool),.list (a.mv.map encMv),.list (Ot a)]
def Yo(a:Aut):AV:= .agg (Ww a)
def Fw(p:Nat)(xs:List Mv):AV:=if xs=[]then .nils else .sl p 3 0 xs.length
def Jm(n:Nat)(L:Nat->Nat)(rs:Nat->List Mv):List AV:=(yQ n).map λk=>Fw (L k) (rs k)
def Pv(n:Nat)(L:Nat->Nat)(rs:Nat->List Mv):(Jm n L rs).length=n:=by simp[Jm]
def Jw{n:Nat}(L:Nat->Nat)(rs:Nat->List Mv){k:Nat}(h:k<n):(Jm n L rs)[k]?=some (Fw (L k) (rs k)):=by simp[Jm,h]
structure MR (K:List AObj) (n o:Nat) (rs:Nat->List Mv) (L:Nat->Nat) (H:List AObj):Prop where
 out:H[o]?=some (.va 23 1 (Jm n L rs))
 leaf:∀k,k<n->rs k≠[]->H[L k]?=some (.arr 73 3 ((rs k).map encMv))
 inj:∀k k',k<n->k'<n->rs k≠[]->rs k'≠[]->L k=L k'->k=k'
 ne:∀k,k<n->rs k≠[]->L k≠o
 geo:K.length<=o
 geL:∀k,k<n->rs k≠[]->K.length<=L k
 keep:∀j,j<K.length->H[j]? =K[j]?
def MR.grow{K:List AObj}{n o:Nat}{rs:Nat->List Mv}{L:Nat->Nat}{H:List AObj}(h:MR K n o rs L H)(E:List AObj):MR K n o rs L (H++E):=by have z1:=h.geo;have ho:=Qe h.out;exact⟨Qb h.out E,λk hk hn=>Qb (h.leaf k hk hn) E,h.inj,h.ne,h.geo,h.geL,λj hj=>by rw[zH (by omega)];exact h.keep j hj⟩
def MR.put {K:List AObj} {n o:Nat} {rs:Nat->List Mv} {L:Nat->Nat} {H H':List AObj} (h:MR K n o rs L H) {i:Nat} (hi:i<n) {m:Mv} {np:Nat} (zc:H.length<=np)
  (za:H'[o]?=some (.va 23 1 ((Jm n L rs).set i (.sl np 3 0 ((rs i).length+1))))) (z6:H'[np]?=some (.arr 73 3 ((rs i++[m]).map encMv)))
  (hk:∀j,j<H.length->j≠o->(rs i≠[]->j≠L i)->H'[j]? =H[j]?):MR K n o (λk=>if k=i then rs i++[m]else rs k) (λk=>if k=i then np else L k) H':=by
 have lo:=Qe h.out;have lL:=λk hk hn=>Qe (h.leaf k hk hn);refine⟨?_,λk z1 hn=>?_,λk k' z1 z7 hn z8 e=>?_,λk z1 hn=>?_,h.geo,λk z1 hn=>?_,λj hj=>?_⟩
 ·rw[za]
  congr 2
  refine xL λk=>?_;by_cases z1:k<n
  ·rw[Jw _ _ z1];by_cases e:k=i
   ·subst e;rw[zK (by rw[Pv];exact z1)];simp[Fw]
   rw[zE (λe'=>e e'.symm),Jw _ _ z1];simp[e]
  rw[y_ (by rw[List.length_set,Pv];omega),y_ (by rw[Pv];omega)]
 ·by_cases e:k=i
  ·subst e;simpa using z6
  simp only[e,if_false]at hn |-;rw[hk _ (lL k z1 hn) (h.ne k z1 hn) (λzb e'=>e (h.inj k i z1 hi hn zb e'))];exact h.leaf k z1 hn
 ·by_cases e1:k=i
  ·by_cases e2:k'=i
   ·rw[e1,e2]
   simp only[e1,e2,if_true,if_false]at e z8;have:=lL k' z7 z8;omega
  by_cases e2:k'=i
  ·simp only[e1,e2,if_true,if_false]at e hn;have:=lL k z1 hn;omega
  simp only[e1,e2,if_false]at e hn z8;exact h.inj k k' z1 z7 hn z8 e
 ·by_cases e:k=i
  ·simp only[e,if_true];omega
  simp only[e,if_false]at hn |-;exact h.ne k z1 hn
 ·have zd:=h.geo;by_cases e:k=i
  ·simp only[e,if_true];omega
  simp only[e,if_false]at hn |-;exact h.geL k z1 hn
 have ze:=h.geo;rw[hk j (by omega) (by omega) (λzb e=>by have:=h.geL i hi zb;omega)];exact h.keep j hj
def y0j(n:Nat)(L:Nat->Nat)(rs:Nat->List Mv)(k:Nat):List AV:=(yQ n).map λi=>if i<k/\rs i≠[]then Uf (rs i)else Fw (L i) (rs i)
section
variable {P:Program} [Env P] {nt kk:Nat} {cd:Code} {Q:Exit->AS->Prop}
def c0e(n:Nat)(L:Nat->Nat)(rs:Nat->List Mv):y0j n L rs 0=Jm n L rs:=by unfold y0j Jm;exact xD λi _=>by rw[if_neg (by omega)]
def k1a{n:Nat}{L:Nat->Nat}{rs:Nat->List Mv}{k:Nat}(h:rs k=[]):y0j n L rs (k+1)=y0j n L rs k:=by
 unfold y0j;refine xD λi _=>?_;by_cases e:i=k
 ·subst e;simp[h]
 by_cases h2:i<k
 ·simp[h2,show i<k+1 by omega]
 simp[h2,show ¬i<k+1 by omega]
def q2d{i c:Nat}{ys:List AV}{xs:List Mv}{p:Nat}(h:xs=[]\/p≠i):(Fw p xs).fz i c ys=Fw p xs:=by
 unfold Fw;split
 ·simp[AV.fz]
 rw[AV.fz,if_neg];rintro⟨e,_⟩;rcases h with h|h
 ·contradiction
 exact h e
def x1w{n:Nat}{L:Nat->Nat}{rs:Nat->List Mv}(z1:∀k k',k<n->k'<n->rs k≠[]->rs k'≠[]->L k=L k'->k=k'){k:Nat}(hk:k<n)(h:rs k≠[]):
  (y0j n L rs k).map (AV.fz (L k) 3 ((rs k).map encMv))=y0j n L rs (k+1):=by
 unfold y0j;rw[vE];refine xD λi hi=>?_;have z6:=yU.1 hi;simp only[Function.comp_apply];by_cases e:i=k
 ·subst e;simp only[Nat.lt_irrefl,false_and,if_false];rw[if_pos ⟨by omega,h⟩,Fw,if_neg h,AV.fz,if_pos ⟨rfl,rfl,by simp⟩];simp[Uf,zT]
 by_cases h2:i<k/\rs i≠[]
 ·rw[if_pos h2,if_pos ⟨by omega,h2.2⟩];simp[Uf,AV.fz]
 rw[if_neg h2,if_neg (λh3=>h2 ⟨by omega,h3.2⟩)];refine q2d ?_;by_cases hr:rs i=[]
 ·exact .inl hr
 exact .inr λe2=>e (z1 i k z6 hk hr h e2)
def MR.freeze {n o:Nat} {rs:Nat->List Mv} {L:Nat->Nat} {sl:List (Nat×AV)} (z1:∀k k',k<n->k'<n->rs k≠[]->rs k'≠[]->L k=L k'->k=k') (z7:∀k,k<n->rs k≠[]->L k≠o)
  (zb:∀k,k<n->rs k≠[]->sl.map (λp=>(p.1,p.2.fz (L k) 3 ((rs k).map encMv)))=sl):∀(d k:Nat) (H:List AObj),k+d=n->H[o]?=some (.va 23 1 (y0j n L rs k))->(∀i,k<=i->i<n->rs i≠[]->H[L i]?=some (.arr 73 3 ((rs i).map encMv)))->
  (∀H',H'[o]?=some (.va 23 1 (y0j n L rs n))->(∀j,j<H.length->j≠o->(∀i,k<=i->i<n->rs i≠[]->j≠L i)->H'[j]? =H[j]?)->AWP P nt kk cd Q ⟨sl,H'⟩)->AWP P nt kk cd Q ⟨sl,H⟩
 |0,k,H,hd,ho,hl,h=>by
  have:k=n:=by omega
  subst this;exact h H ho λ_ _ _ _=>rfl
 |d+1,k,H,hd,ho,hl,h=>by
  by_cases hr:rs k=[]
  ·refine MR.freeze z1 z7 zb d (k+1) H (by omega) (by rw[k1a hr];exact ho) (λi hi=>hl i (by omega)) λH' zc zd=>h H' zc λj hj z8 za=>zd j hj z8 λi hi=>za i (by omega)
  have z6:k<n:=by omega
  have zg:=z7 k z6 hr;have zh:=hl k (zS _) z6 hr;refine Iz (L k) zh o ho (Ne.symm zg) rfl ?_;rw[zb k z6 hr];have zi:=Qe ho;have e:AObj.fz (L k) 3 ((rs k).map encMv) (.va 23 1 (y0j n L rs k))= .va 23 1 (y0j n L rs (k+1)):=by rw[AObj.fz,x1w z1 z6 hr]
  rw[e];refine MR.freeze z1 z7 zb d (k+1) _ (by omega) (zK (by simpa using zi)) (λi hi ze zf=>?_) λH' zc zd=>h H' zc λj hj z8 za=>?_
  ·rw[zE (Ne.symm (z7 i ze zf)),zE (λe2=>by have:=z1 k i z6 ze hr zf e2;omega)];exact hl i (by omega) ze zf
  rw[zd j (by simpa using hj) z8 λi hi=>za i (by omega),zE (Ne.symm z8),zE (Ne.symm (za k (zS _) z6 hr))]
end
def k2v(n:Nat)(L:Nat->Nat)(rs:Nat->List Mv):(y0j n L rs n).all (λx=>x.cells.all AV.pure)=true/\(y0j n L rs n).map AV.nrm=(yQ n).map λk=>Uf (rs k):=by
 have hc:∀i,i<n->(if i<n/\rs i≠[]then Uf (rs i)else Fw (L i) (rs i))=if rs i=[]then .nils else Uf (rs i):=λi hi=>by
  by_cases hr:rs i=[]
  ·rw[if_neg (λh=>h.2 hr),if_pos hr,Fw,if_pos hr]
  rw[if_pos ⟨hi,hr⟩,if_neg hr]
 have e:y0j n L rs n=(yQ n).map λi=>if rs i=[]then .nils else Uf (rs i):=xD λi hi=>hc i (yU.1 hi)
 rw[e];constructor
 ·rw[List.all_map,zX];intro i _;simp only[Function.comp_apply];split
  ·simp[AV.cells,AV.pure]
  simp[Uf,AV.cells,AV.pure]
 rw[vE];refine xD λi _=>?_;simp only[Function.comp_apply];split
 ·rename_i h;rw[h];simp[Uf,AV.nrm]
 simp[Uf,AV.nrm]
attribute [local irreducible] Yn Re Wz
def Cl(a:Aut)(ha:OkA a):PC prog 57 [encA a] (λr=>r=Yo a):=by
 refine pcB func57 results57 ntmps57 ?_;simp only[Qd];simp only[encA];have y4:=ha.fin;have yf:=ha.mvs;repeat(refine s_ ?_;simp)
 refine Y0 (P:=prog) tOk mixed [7] (.val 0 (.val 1 (.val 2 (.val 3 (.two 4 (.val 5 (.one 6 (.one 7 (.done)))) 6 (.one 4 (.val 5 (.one 7 (.done))))))))) (λS'=>∃o c:Nat,o≠c/\2<=o/\2<=c/\S'.hp[0]?=some (.vars (Qj a))/\S'.hp[1]?=some (.vars [.i 0,.nils,.nils,.nils])/\S'.hp[o]?=some (.arr 23 1 (List.replicate a.fin.length .nils))/\S'.hp[c]?=some (.vars [.i a.types,.list (a.fin.map .bool),.list (a.mv.map encMv),.sl o 1 0 a.fin.length])/\look S'.sl 1=some (.vptr 0 0)/\look S'.sl 2=some (.vptr 1 0)/\look S'.sl 3=some (.vptr c 0)) rfl (by kernel_rfl) ?_ ?_
 ·simp
  repeat' (first
   |refine And.intro ?_ ?_
   |(refine Ez tOk rfl rfl rfl q30 rfl T23 rfl rfl rfl (n:=a.fin.length) (by simp;omega) (by unfold maxLen;omega) .nils rfl ?_;simp))
  ·exact⟨2,3,by simp[Qj]⟩
  exact⟨3,2,by simp[Qj]⟩
 rintro⟨sl,H⟩ ⟨o,c,zq,y5,yg,h0,h1,ho,hc,s1,s2,s3⟩;simp only at h0 h1 ho hc s1 s2 s3;simp;refine Ru (sl':=[(1,.vptr 0 0),(2,.vptr 1 0),(3,.vptr c 0)]) ?_ (by simp[s1,s2,s3]);refine Jc o ho ?_;refine Q3 λZ hZ=>?_;have z0:Z[0]?=some (.vars (Qj a)):=by rw[hZ,zE (by omega)];exact h0
 have zc:Z[c]?=some (.vars [.i a.types,.list (a.fin.map .bool),.list (a.mv.map encMv),.sl o 1 0 a.fin.length]):=by rw[hZ,zE zq];exact hc
 have zM:MR [.vars (Qj a),.vars [.i 0,.nils,.nils,.nils]] a.fin.length o (Yn a 0) (λ_=>0) Z:=by
  refine⟨?_,λk _ hn=>absurd (It a k) hn,λk _ _ _ hn=>absurd (It a k) hn,λk _ hn=>absurd (It a k) hn,by simpa using y5,λk _ hn=>absurd (It a k) hn,λj hj=>?_⟩
  ·rw[hZ,zK (Qe ho)]
   congr 2
   rw[eq_comm,List.eq_replicate_iff];refine⟨Pv _ _ _,λx hx=>?_⟩;obtain⟨k,_,rfl⟩:=zO.1 hx;simp[Fw,It]
  simp only[yZ,uQ]at hj;rw[hZ,zE (by omega)];rcases j with _|_|j
  ·exact h0
  ·exact h1
  omega
 clear hZ h0 h1 ho hc;clear H;repeat(refine s_ ?_;simp[z0])
 refine lpV (F:=λ(u:Nat×(Nat->Nat)×List AObj)=>⟨[(1,.vptr 0 0),(2,.vptr 1 0),(3,.vptr c 0),(15,.list (a.mv.map encMv)),(16,.i a.mv.length),(17,.i u.1)],u.2.2⟩)
  (λu=>u.1<=a.mv.length/\u.2.2[c]?=some (.vars [.i a.types,.list (a.fin.map .bool),.list (a.mv.map encMv),.sl o 1 0 a.fin.length])/\MR [.vars (Qj a),.vars [.i 0,.nils,.nils,.nils]] a.fin.length o (Yn a u.1) u.2.1 u.2.2) (λu=>a.mv.length - u.1) ?_ (0,λ_=>0,Z) ⟨xA _,zc,zM⟩
 clear z0 zc zM;clear Z;rintro⟨j,L,G⟩ ⟨hj,gc,gM⟩ ih;simp only at hj gc gM ih |-;repeat(refine s_ ?_;simp)
 refine Qa rfl (λy6=>?_) (λy7=>?_)
 ·have zd:j<a.mv.length:=by simpa using y6
  have hw:=wz j (by omega);have y0:=f0l a zd;have y8:=u1t a j;have zr:=ha.mv _ (zL zd);have zt:=Gv ha (zL zd);have zo:=λL' G'=>ih (j+1,L',G');simp only at zo;repeat(refine s_ ?_;simp[zd])
  generalize a.mv[j]=m at *;refine pcL (S8 a.types.toNat m.on m.on zr.on.wf zr.on.wf (λs hs=>by have:=zt s hs;omega) (λs hs=>by have:=zt s hs;omega) (by have:=ha.types;omega)) ?_
  simp;rw[y01 zr.on.wf];cases hv:Ws m.on with
  |true=>
   have ze:Yn a (j+1)=Yn a j:=funext λk=>by rw[y0 k,hv];simp
   rw[ze]at zo;simp[Ku,encSy];repeat(refine s_ ?_;simp)
   refine Qk rfl ?_;repeat(refine s_ ?_;simp[hw])
   exact lkB (zo L _ ⟨by omega,Qb gc _,gM.grow _⟩ (by omega))
  |false=>
   obtain⟨k,hk⟩:∃k:Nat,m.src=k:=⟨m.src.toNat,by have:=zr.src.1;omega⟩
   have z7:k<a.fin.length:=by have:=zr.src.2;omega
   have ze:Yn a (j+1)=λk'=>if k'=k then Yn a j k++[m]else Yn a j k':=funext λk'=>by
    rw[y0 k',hv];by_cases e:k'=k
    ·subst e;simp[hk]
    have:¬m.src=(k':Int):=by omega
    simp[e,this]
   rw[ze]at zo;simp[Ku,encSy];repeat(refine s_ ?_;simp)
   refine Qk rfl ?_;refine Q3 λZ hZ=>?_;have zc:Z[c]?=some (.vars [.i a.types,.list (a.fin.map .bool),.list (a.mv.map encMv),.sl o 1 0 a.fin.length]):=by rw[hZ];exact Qb gc _
   have zM:MR [.vars (Qj a),.vars [.i 0,.nils,.nils,.nils]] a.fin.length o (Yn a j) L Z:=by rw[hZ];exact gM.grow _
   have zm:Z[G.length]?=some (.vars [.i m.src,.i m.dst,.list (m.on.map encL)]):=by rw[hZ,zF (by simp)];simp
   clear hZ gc gM y0 ze;generalize G.length=g at *;clear G
   have z6:=Jw L (Yn a j) z7;have zj:=Pv a.fin.length L (Yn a j);have z8:=zM.out;have zu:=zM.leaf k z7;rw[hk]at zm;have zb:∀M,(Z++M)[c]?=some (.vars [.i a.types,.list (a.fin.map .bool),.list (a.mv.map encMv),.sl o 1 0 a.fin.length]):=λM=>Qb zc M;have outA:∀M,(Z++M)[o]?=some (.va 23 1 (Jm a.fin.length L (Yn a j))):=λM=>Qb z8 M;have zf:∀M,(Z++M)[g]?=some (.vars [.i k,.i m.dst,.list (m.on.map encL)]):=λM=>Qb zm M;have zk:∀M hh,(Z++M)[c]'hh= .vars [.i a.types,.list (a.fin.map .bool),.list (a.mv.map encMv),.sl o 1 0 a.fin.length]:=λM hh=>(zZ hh).2 (zb M);have outH:∀M hh,(Z++M)[o]'hh= .va 23 1 (Jm a.fin.length L (Yn a j)):=λM hh=>(zZ hh).2 (outA M);have zl:∀M hh,(Z++M)[g]'hh= .vars [.i k,.i m.dst,.list (m.on.map encL)]:=λM hh=>(zZ hh).2 (zf M);repeat(refine s_ ?_;simp)
   generalize zv:Jm a.fin.length L (Yn a j)=RC at *
   have yh:=y8 k;generalize zh:Yn a j k=rs at *
   by_cases hr0:rs=[]
   ·rw[Fw,if_pos hr0]at z6;have zi:∀hh,RC[k]'hh= .nils:=λhh=>by rw[zI hh]at z6;exact Option.some.inj z6
    refine Y0 (P:=prog) tOk mixed [12,14] (.val 0 (.val 2 (.val 4 (.val 5 (.val 6 (.val 7 (.val 8 (.val 9 (.val 10 (.three 1 (.two 3 (.one 11 (.one 12 (.val 13 (.one 14 (.done))))) 11 (.two 3 (.one 12 (.val 13 (.one 14 (.done)))) 12 (.val 3 (.val 13 (.one 14 (.done)))))) 3 (.two 1 (.one 11 (.one 12 (.val 13 (.one 14 (.done))))) 11 (.two 1 (.one 12 (.val 13 (.one 14 (.done)))) 12 (.val 1 (.val 13 (.one 14 (.done)))))) 11 (.three 1 (.two 3 (.one 12 (.val 13 (.one 14 (.done)))) 12 (.val 3 (.val 13 (.one 14 (.done))))) 3 (.two 1 (.one 12 (.val 13 (.one 14 (.done)))) 12 (.val 1 (.val 13 (.one 14 (.done))))) 12 (.val 1 (.val 3 (.val 13 (.one 14 (.done)))))))))))))))) (λS'=>S'.hp=(Z++[AObj.arr 73 3 [.agg [.i k,.i m.dst,.list (m.on.map encL)]],AObj.arr 73 3 [.agg [.i k,.i m.dst,.list (m.on.map encL)]]]).set o (.va 23 1 (RC.set k (.sl (Z.length+1) 3 0 1)))/\look S'.sl 1=some (.vptr 0 0)/\look S'.sl 2=some (.vptr 1 0)/\look S'.sl 3=some (.vptr c 0)/\look S'.sl 15=some (.list (a.mv.map encMv))/\look S'.sl 16=some (.i a.mv.length)/\look S'.sl 17=some (.i j)) rfl (by kernel_rfl) ?_ ?_
    ·simp[zc,z8,zm,z6,zi,z7,zj,zb,outA,zf,zk,outH,zl]
     repeat' (first
      |refine And.intro ?_ ?_
      |(refine apS T23 T73 ?_;simp[zb,outA,zf,zk,outH,zl,z6,zi,z7,zj];refine⟨by simp[Wo]<;>omega,?_⟩;simp[zb,outA,zf,zk,outH,zl,z6,zi,z7,zj]))
    rintro⟨sl,E⟩ ⟨rfl,s1,s2,s3,s15,s16,s17⟩;simp only at s1 s2 s3 s15 s16 s17;simp;refine Ru (sl':=[(1,.vptr 0 0),(2,.vptr 1 0),(3,.vptr c 0),(15,.list (a.mv.map encMv)),(16,.i a.mv.length),(17,.i j)]) ?_ (by simp[s1,s2,s3,s15,s16,s17]);repeat(refine s_ ?_;simp[hw])
    refine lkA [(1,.vptr 0 0),(2,.vptr 1 0),(3,.vptr c 0),(15,.list (a.mv.map encMv)),(16,.i a.mv.length),(17,.i (j+1:Nat))] ?_;have zx:=Qe z8;have za:=zM.put z7 (m:=m) (np:=Z.length+1) (H':=(Z++[AObj.arr 73 3 [.agg [.i k,.i m.dst,.list (m.on.map encL)]],AObj.arr 73 3 [.agg [.i k,.i m.dst,.list (m.on.map encL)]]]).set o (.va 23 1 (RC.set k (.sl (Z.length+1) 3 0 1)))) (by omega)
     (by rw[zK (by simp;omega),zv,zh,hr0];rfl) (by rw[zE (by omega),zF (by omega),zh,hr0];simp[hk]) (λjj h1 h2 _=>by rw[zE (Ne.symm h2),zH h1])
    rw[zh]at za;exact zo _ _ ⟨by omega,by rw[zE zq];exact zb _,za⟩ (by omega)
   rw[Fw,if_neg hr0]at z6;have zi:∀hh,RC[k]'hh= .sl (L k) 3 0 rs.length:=λhh=>by rw[zI hh]at z6;exact Option.some.inj z6
   have zp:=zu hr0;have hlo:=zM.ne k z7 (by rw[zh];exact hr0);have y9:L k≠c:=λe=>by rw[e,zc]at zp;simp at zp
   have ya:L k≠g:=λe=>by rw[e,zm]at zp;simp at zp
   have yi:=Qe zp;have zg:∀M,(Z++M)[L k]?=some (.arr 73 3 (rs.map encMv)):=λM=>Qb zp M;have zn:∀M hh,(Z++M)[L k]'hh= .arr 73 3 (rs.map encMv):=λM hh=>(zZ hh).2 (zg M);generalize yb:L k=p at *
   have outS:∀M M',((Z++M).set p .dead++M')[o]?=some (.va 23 1 RC):=λM M'=>Qb (Qc hlo (outA M) _) M';have outSH:∀M M' hh,((Z++M).set p .dead++M')[o]'hh= .va 23 1 RC:=λM M' hh=>(zZ hh).2 (outS M M');have zw:∀M M',((Z++M).set p .dead++M')[c]?=some (.vars [.i a.types,.list (a.fin.map .bool),.list (a.mv.map encMv),.sl o 1 0 a.fin.length]):=λM M'=>Qb (Qc y9 (zb M) _) M';have zcSH:∀M M' hh,((Z++M).set p .dead++M')[c]'hh= .vars [.i a.types,.list (a.fin.map .bool),.list (a.mv.map encMv),.sl o 1 0 a.fin.length]:=λM M' hh=>(zZ hh).2 (zw M M');have zy:∀M M',((Z++M).set p .dead++M')[g]?=some (.vars [.i k,.i m.dst,.list (m.on.map encL)]):=λM M'=>Qb (Qc ya (zf M) _) M';have zmSH:∀M M' hh,((Z++M).set p .dead++M')[g]'hh= .vars [.i k,.i m.dst,.list (m.on.map encL)]:=λM M' hh=>(zZ hh).2 (zy M M');refine Y0 (P:=prog) tOk mixed [12,14] (.val 0 (.val 2 (.val 4 (.val 5 (.val 6 (.val 7 (.val 8 (.val 9 (.val 10 (.three 1 (.two 3 (.one 11 (.one 12 (.val 13 (.one 14 (.done))))) 11 (.two 3 (.one 12 (.val 13 (.one 14 (.done)))) 12 (.val 3 (.val 13 (.one 14 (.done)))))) 3 (.two 1 (.one 11 (.one 12 (.val 13 (.one 14 (.done))))) 11 (.two 1 (.one 12 (.val 13 (.one 14 (.done)))) 12 (.val 1 (.val 13 (.one 14 (.done)))))) 11 (.three 1 (.two 3 (.one 12 (.val 13 (.one 14 (.done)))) 12 (.val 3 (.val 13 (.one 14 (.done))))) 3 (.two 1 (.one 12 (.val 13 (.one 14 (.done)))) 12 (.val 1 (.val 13 (.one 14 (.done))))) 12 (.val 1 (.val 3 (.val 13 (.one 14 (.done)))))))))))))))) (λS'=>S'.hp=((Z++[AObj.arr 73 3 [.agg [.i k,.i m.dst,.list (m.on.map encL)]]]).set p .dead++[AObj.arr 73 3 (rs.map encMv++[.agg [.i k,.i m.dst,.list (m.on.map encL)]])]).set o (.va 23 1 (RC.set k (.sl (Z.length+1) 3 0 (rs.length+1))))/\look S'.sl 1=some (.vptr 0 0)/\look S'.sl 2=some (.vptr 1 0)/\look S'.sl 3=some (.vptr c 0)/\look S'.sl 15=some (.list (a.mv.map encMv))/\look S'.sl 16=some (.i a.mv.length)/\look S'.sl 17=some (.i j)) rfl (by kernel_rfl) ?_ ?_
   ·simp[zc,z8,zm,z6,zi,z7,zj,zb,outA,zf,zk,outH,zl,zg,zn]
    repeat' (first
     |refine And.intro ?_ ?_
     |(refine apS T23 T73 ?_;simp[zb,outA,zf,zk,outH,zl,z6,zi,z7,zj,zg,zn,outS,outSH,zw,zcSH,zy,zmSH];refine⟨by simp[Wo]<;>omega,?_⟩;simp[zb,outA,zf,zk,outH,zl,z6,zi,z7,zj,outS,outSH,zw,zcSH,zy,zmSH])
     |(refine apS T23 T73 ?_;simp[zb,outA,zf,zk,outH,zl,z6,zi,z7,zj,zg,zn,outS,outSH,zw,zcSH,zy,zmSH];simp[Wo]<;>omega)
     |omega)
   rintro⟨sl,E⟩ ⟨rfl,s1,s2,s3,s15,s16,s17⟩;simp only at s1 s2 s3 s15 s16 s17;simp;refine Ru (sl':=[(1,.vptr 0 0),(2,.vptr 1 0),(3,.vptr c 0),(15,.list (a.mv.map encMv)),(16,.i a.mv.length),(17,.i j)]) ?_ (by simp[s1,s2,s3,s15,s16,s17]);repeat(refine s_ ?_;simp[hw])
   refine lkA [(1,.vptr 0 0),(2,.vptr 1 0),(3,.vptr c 0),(15,.list (a.mv.map encMv)),(16,.i a.mv.length),(17,.i (j+1:Nat))] ?_;have zx:=Qe z8;have za:=zM.put z7 (m:=m) (np:=Z.length+1) (H':=((Z++[AObj.arr 73 3 [.agg [.i k,.i m.dst,.list (m.on.map encL)]]]).set p .dead++[AObj.arr 73 3 (rs.map encMv++[.agg [.i k,.i m.dst,.list (m.on.map encL)]])]).set o (.va 23 1 (RC.set k (.sl (Z.length+1) 3 0 (rs.length+1))))) (by omega)
    (by rw[zK (by simp;omega),zv,zh]) (by rw[zE (by omega),zF (by simp),zh];simp[hk]) (λjj h1 h2 h3=>by
     have h4:p≠jj:=λe=>h3 (by rw[zh];exact hr0) (by rw[yb];exact e.symm);rw[zE (Ne.symm h2),zH (by simp;omega),zE h4,zH h1])
   rw[zh]at za;exact zo _ _ ⟨by omega,by rw[zE zq];exact zw _ _,za⟩ (by omega)
 have y1:j=a.mv.length:=by simp at y7;omega
 subst y1;refine kpA [(1,.vptr 0 0),(2,.vptr 1 0),(3,.vptr c 0)] ?_;refine MR.freeze (n:=a.fin.length) (o:=o) gM.inj gM.ne (λk hk hn=>by simp[AV.fz]) a.fin.length 0 G (by omega) (by rw[c0e];exact gM.out) (λk _ hk hn=>gM.leaf k hk hn) λH' y2 zz=>?_;obtain⟨yc,yd⟩:=k2v a.fin.length L (Yn a a.mv.length);have y3:H'[c]?=some (.vars [.i a.types,.list (a.fin.map .bool),.list (a.mv.map encMv),.sl o 1 0 a.fin.length]):=by rw[zz c (Qe gc) (Ne.symm zq) (λi _ hi hr e=>by have:=gM.leaf i hi hr;rw[<-e,gc]at this;simp at this)];exact gc
 have yj:H'[0]?=some (.vars (Qj a)):=by rw[zz 0 (by have:=Qe gM.out;omega) (by omega) (λi _ hi hr e=>by have:=gM.geL i hi hr;simp at this;omega)];exact gM.keep 0 (by simp)
 have ye:H'[1]?=some (.vars [.i 0,.nils,.nils,.nils]):=by rw[zz 1 (by have:=Qe gM.out;omega) (by omega) (λi _ hi hr e=>by have:=gM.geL i hi hr;simp at this;omega)];exact gM.keep 1 (by simp)
 have zx:=Qe y2;clear zz ih gM gc;refine P0 o y2 yc ?_;refine f0i o (zK zx) ?_;rw[yd,sr];refine Q0 o (zK zx) c (by rw[zE zq];exact y3) ?_;refine Q3 λZ hZ=>?_;have zc:Z[c]?=some (.vars (Ww a)):=by rw[hZ,zK (by simpa using Qe y3)];simp[AV.fz,Ww,Ot,y1j];rw[zT (by simp)]
 have z1:Z[1]?=some (.vars [.i 0,.nils,.nils,.nils]):=by rw[hZ,zE (by omega),zE (by omega),zE (by omega)];exact ye
 clear hZ;simp[AV.fz];unfold Yo Ww;unfold Ww at zc;repeat(refine s_ ?_;simp[zc,z1,Qf z1])
end
section
open Go.Maps Go.RowKit
abbrev Stp:=Sy×(Int×Int)
def E8(e:Stp):AV:= .agg [.i e.1.ty,.i e.1.num,.i e.2.1,.i e.2.2]
def f1s(a b:Aut)(p q:Int):PC prog 76 [Yo a,Yo b,.i p,.i q] (λr=>r= .fn (.func 142) [] [.iptr (Ww a),.iptr [.i p],.iptr (Ww b),.iptr [.i q]]):=by refine pcB func76 results76 ntmps76 ?_;simp only[Qd];simp only[Yo,Ww];repeat(refine s_ ?_;simp)
def Nq(b:Aut)(q:Int)(m:Mv)(j:Nat):List Stp:=((Wz b q).take j).filterMap λn=>(Re m.on n.on).map λx=>(x,(m.dst,n.dst))
def O3(a b:Aut)(s:Int×Int)(i:Nat):List Stp:=((Wz a s.1).take i).flatMap λm=>Nq b s.2 m (Wz b s.2).length
def w0c(a b:Aut)(s:Int×Int):O3 a b s (Wz a s.1).length=Ee a b s:=by rw[d1o,O3,zY];unfold Nq;rw[zY]
def f0h(a b:Aut)(s:Int×Int):O3 a b s 0=[]:=by simp[O3]
def w1e(b:Aut)(q:Int)(m:Mv):Nq b q m 0=[]:=by simp[Nq]
def g03(a b:Aut)(s:Int×Int){i:Nat}(h:i<(Wz a s.1).length):O3 a b s (i+1)=O3 a b s i++Nq b s.2 (Wz a s.1)[i] (Wz b s.2).length:=by unfold O3;rw[zR h,wV];simp
def d0r(b:Aut)(q:Int)(m:Mv){j:Nat}(h:j<(Wz b q).length):Nq b q m (j+1)=Nq b q m j++(match Re m.on (Wz b q)[j].on with|some x=>[(x,(m.dst,(Wz b q)[j].dst))]|none=>[]):=by
 unfold Nq;rw[zR h,tq]
 congr 1
 cases hx:Re m.on (Wz b q)[j].on<;>simp[hx]
def u18(b:Aut)(q:Int)(m:Mv)(j:Nat):∃r,Nq b q m (Wz b q).length=Nq b q m j++r:=by refine⟨((Wz b q).drop j).filterMap λn=>(Re m.on n.on).map λx=>(x,(m.dst,n.dst)),?_⟩;unfold Nq;rw[<-tq,xI,zY]
def x1c(a b:Aut)(s:Int×Int)(i:Nat):∃r,Ee a b s=O3 a b s i++r:=by refine⟨((Wz a s.1).drop i).flatMap λm=>Nq b s.2 m (Wz b s.2).length,?_⟩;rw[<-w0c];unfold O3;rw[<-wV,xI,zY]
def V0{a:Aut}{s:Int}(h:inS a s):(Ot a)[s.toNat]?=some (Uf (Wz a s)):=by have:=A3 h;unfold Ot;rw[zU,List.getElem?_range this.1];simp[this.2]
def z00{a:Aut}(ha:OkA a){s:Int}{m:Mv}(hm:m∈Wz a s):PWf a.types.toNat m.on/\∀t∈m.on,t.length<=256:=by have:=(R7.1 hm).1;exact⟨ha.wfA.on m this,Gv ha this⟩
def Hp(a:Aut)(s:Int):(Wz a s).length<=a.mv.length:=yW _ _
attribute [local irreducible] Wz Re Nq O3 Ot Ee
def f09 (a b:Aut) (ha:OkA a) (hb:OkA b) (ht:b.types=a.types) (p q:Int) (hp:inS a p) (hq:inS b q) (l:Nat) {z8:Nat} {sl':List (Nat×AV)} {ps:List Tmp} {asg body:Code} (y4:ps.length=1) (y5:(ps.all λp=>decide (p<z8))=true)
  (Inv:List Stp->List AObj->Prop) (Done:Code->List AObj->Prop) (H0:List AObj)
  (hI:∀k H,Inv k H->H[l]?=some (.lp true none z8 sl' ps asg body))
  (z7:∀k H L,Inv k H->Inv k (H++L))
  (zb:∀pre e post H,Ee a b (p,q)=pre++e::post->Inv pre H->H0.length<=H.length->AWP prog z8 H.length asg (Pf (AWP prog z8 H.length body (w0b l (λjm K2=>(jm=none/\Inv (pre++[e]) (K2.set l (.lp true none z8 sl' ps asg body))/\∀i cs,H0.length<=i->H[i]?=some (.vars cs)->(K2.set l (.lp true none z8 sl' ps asg body))[i]?=some (.vars cs))\/∃c,jm=some c/\Done c (K2.set l (.lp false (some c) z8 sl' ps asg body))))) (λ_ _=>False)) ⟨Rh sl' ps [E8 e],H.set l .dead⟩)
  (h0:Inv [] H0):FC prog 142 [.yld l,.iptr (Ww a),.iptr [.i p],.iptr (Ww b),.iptr [.i q]] H0 (λ_ H'=>Inv (Ee a b (p,q)) H'\/∃c,Done c H'):=by
 refine fcB func142 results142 ntmps142 ?_;simp only[Qd];have zk:=V0 hp;have zl:=V0 hq;have yv:=A3 hp;have yw:=A3 hq;have y6:=Hp a p;have y7:=Hp b q;have yx:=ha.mvs;have yy:=hb.mvs;have y8:=hp.1;have y9:=hq.1;have ya:(Ot a).length=a.fin.length:=by unfold Ot;simp
 have yb:(Ot b).length=b.fin.length:=by unfold Ot;simp
 have yc:=hp.2;have yd:=hq.2;simp only[Ww,Uf]at zk zl |-;have zn:∀hh,(Ot a)[p.toNat]'hh= .list ((Wz a p).map encMv):=λhh=>by rw[zI hh]at zk;exact Option.some.inj zk
 have zo:∀hh,(Ot b)[q.toNat]'hh= .list ((Wz b q).map encMv):=λhh=>by rw[zI hh]at zl;exact Option.some.inj zl
 repeat(refine s_ ?_;simp[zk,zn,y8,yc,ya])
 have ye:(b.types).toNat=a.types.toNat:=by rw[ht]
 refine R9 (Qo (sl':=[(0,.yld l),(1,.iptr [.i a.types,.list (a.fin.map .bool),.list (a.mv.map encMv),.list (Ot a)]),(2,.iptr [.i p]),(3,.iptr [.i b.types,.list (b.fin.map .bool),.list (b.mv.map encMv),.list (Ot b)]),(4,.iptr [.i q]),(16,.list ((Wz a p).map encMv)),(17,.i (Wz a p).length),(18,.i (0:Nat))]) ?_ (by simp));have zp:O3 a b (p,q) (Wz a p).length=Ee a b (p,q):=w0c a b (p,q);have zg:=λi h=>g03 a b (p,q) (i:=i) h;have zc:=λm j h=>d0r b q m (j:=j) h;have zh:=λm j=>u18 b q m j;have zi:=λi=>x1c a b (p,q) i;have hz:O3 a b (p,q) 0=[]:=f0h a b (p,q);have yf:∀m,Nq b q m 0=[]:=λm=>w1e b q m;refine R8 (F:=λ(u:Nat×List AObj)=>⟨[(0,.yld l),(1,.iptr [.i a.types,.list (a.fin.map .bool),.list (a.mv.map encMv),.list (Ot a)]),(2,.iptr [.i p]),(3,.iptr [.i b.types,.list (b.fin.map .bool),.list (b.mv.map encMv),.list (Ot b)]),(4,.iptr [.i q]),(16,.list ((Wz a p).map encMv)),(17,.i (Wz a p).length),(18,.i u.1)],u.2⟩)
  (λu=>u.1<=(Wz a p).length/\Inv (O3 a b (p,q) u.1) u.2/\H0.length<=u.2.length) (λu=>(Wz a p).length - u.1) ?_ (0,H0) ⟨by simp,by rw[hz];exact h0,zS _⟩
 rintro⟨i,H⟩ ⟨hi,hv,zw⟩ ih;simp only at hi hv zw ih |-;repeat(refine s_ ?_;simp)
 refine Qa rfl (λyg=>?_) (λyh=>?_)
 ·have za:i<(Wz a p).length:=by simpa using yg
  have hw:=wz i (by omega);have zy:=zg i za;obtain⟨yi,yj⟩:=z00 ha (zL za);have yk:∃r,Ee a b (p,q)=(O3 a b (p,q) i++Nq b q (Wz a p)[i] (Wz b q).length)++r:=by obtain⟨r,hr⟩:=zi (i+1);exact⟨r,by rw[hr,zy]⟩
  have zd:((Wz a p).map encMv)[i]?=some (encMv (Wz a p)[i]):=by simp[za]
  have ze:∀hh,((Wz a p).map encMv)[i]'hh=encMv (Wz a p)[i]:=λhh=>by simp
  have zz:=λH'=>ih (i+1,H');simp only[zy]at zz;generalize (Wz a p)[i]=m at *
  have yl:=zc m;have ym:=zh m;have yn:=yf m;simp only[encMv]at zd ze;have zq:=z7 _ H [.vars [.i m.src,.i m.dst,.list (m.on.map encL)]] hv;repeat(refine s_ ?_;simp[zl,zo,y9,yd,yb,zd,ze,za])
  refine Q3 λZ hZ=>?_;have zx:Z[H.length]?=some (.vars [.i m.src,.i m.dst,.list (m.on.map encL)]):=by rw[hZ,zF (by simp)];simp
  rw[<-hZ]at zq;clear hZ hv zd ze;generalize H.length=x at *;clear H;refine lpV (F:=λ(u:Nat×List AObj)=>⟨[(0,.yld l),(1,.iptr [.i a.types,.list (a.fin.map .bool),.list (a.mv.map encMv),.list (Ot a)]),(2,.iptr [.i p]),(3,.iptr [.i b.types,.list (b.fin.map .bool),.list (b.mv.map encMv),.list (Ot b)]),(4,.iptr [.i q]),(7,.vptr x 0),(16,.list ((Wz a p).map encMv)),(17,.i (Wz a p).length),(18,.i i),(26,.list ((Wz b q).map encMv)),(27,.i (Wz b q).length),(28,.i u.1)],u.2⟩)
   (λu=>u.1<=(Wz b q).length/\Inv (O3 a b (p,q) i++Nq b q m u.1) u.2/\u.2[x]?=some (.vars [.i m.src,.i m.dst,.list (m.on.map encL)])) (λu=>(Wz b q).length - u.1) ?_ (0,Z) ⟨by simp,by rw[yn,yV];exact zq,zx⟩
  clear zx zq;clear Z;rintro⟨j,G⟩ ⟨hj,gv,gx⟩ ih2;simp only at hj gv gx ih2 |-;repeat(refine s_ ?_;simp)
  refine Qa rfl (λzr=>?_) (λzt=>?_)
  ·have z1:j<(Wz b q).length:=by simpa using zr
   have y0:=wz j (by omega);have y1:=yl j z1;obtain⟨yo,yp⟩:=z00 hb (zL z1);obtain⟨r1,zm⟩:=ym (j+1);obtain⟨r2,yq⟩:=yk;have zd:((Wz b q).map encMv)[j]?=some (encMv (Wz b q)[j]):=by simp[z1]
   have ze:∀hh,((Wz b q).map encMv)[j]'hh=encMv (Wz b q)[j]:=λhh=>by simp
   have z6:=λH'=>ih2 (j+1,H');rw[y1]at zm;simp only[y1]at z6;generalize (Wz b q)[j]=n at *;simp only[encMv]at zd ze
   have zf:∀M,(G++M)[x]?=some (.vars [.i m.src,.i m.dst,.list (m.on.map encL)]):=λM=>Qb gx M;have zu:∀M hh,(G++M)[x]'hh= .vars [.i m.src,.i m.dst,.list (m.on.map encL)]:=λM hh=>(zZ hh).2 (zf M);repeat(refine s_ ?_;simp[zd,ze,z1,zf,zu])
   refine pcL (S8 a.types.toNat m.on n.on yi (by rw[<-ye];exact yo) (λs hs=>by have:=yj s hs;omega) (λs hs=>by have:=yp s hs;omega) (by have:=ha.types;omega)) ?_;simp;cases hx:Re m.on n.on with
   |none=>
    rw[hx]at zm z6;simp only[yV]at z6;simp[Ku,encSy];repeat(refine s_ ?_;simp[zf,zu])
    refine Wq rfl rfl ?_;simp;repeat(refine s_ ?_;simp)
    refine Qa rfl (λh=>by cases h) (λ_=>?_);repeat(refine s_ ?_;simp[y0])
    exact lkB (z6 _ ⟨by omega,z7 _ _ _ gv,zf _⟩ (by omega))
   |some y=>
    rw[hx]at zm z6;simp[Ku,encSy];repeat(refine s_ ?_;simp[zf,zu])
    have y2:=z7 _ G [.vars [.i n.src,.i n.dst,.list (n.on.map encL)],.vars [.i y.ty,.i y.num]] gv;have y3:=zf [.vars [.i n.src,.i n.dst,.list (n.on.map encL)],.vars [.i y.ty,.i y.num]];have yr:H0.length<=(G++[AObj.vars [.i n.src,.i n.dst,.list (n.on.map encL)],AObj.vars [.i y.ty,.i y.num]]).length:=by have:=Qe y3;omega
    have i1:=hI _ _ y2;have yt:=zb (O3 a b (p,q) i++Nq b q m j) (y,(m.dst,n.dst)) (r1++r2) _ (by rw[yq,zm];simp) y2 yr;generalize G++[AObj.vars [.i n.src,.i n.dst,.list (n.on.map encL)],AObj.vars [.i y.ty,.i y.num]]=Y at *;refine Tb rfl rfl (q:=l) rfl rfl i1 y4 y5 rfl (λjm K2=>(jm=none/\Inv (O3 a b (p,q) i++Nq b q m j++[(y,(m.dst,n.dst))]) (K2.set l (.lp true none z8 sl' ps asg body))/\∀i cs,H0.length<=i->Y[i]?=some (.vars cs)->(K2.set l (.lp true none z8 sl' ps asg body))[i]?=some (.vars cs))\/∃c,jm=some c/\Done c (K2.set l (.lp false (some c) z8 sl' ps asg body))) ?_ ?_
    ·exact yt
    rintro jm K2 (⟨rfl,hK,yu⟩|⟨c,rfl,hD⟩)
    ·simp;repeat(refine s_ ?_;simp)
     refine Qa rfl (λh=>by cases h) (λ_=>?_);repeat(refine s_ ?_;simp[y0])
     exact lkB (z6 _ ⟨by omega,by rw[<-List.append_assoc];exact hK,yu x _ zw y3⟩ (by omega))
    simp;repeat(refine s_ ?_;simp)
    refine Qa rfl (λ_=>?_) (λh=>by cases h);repeat(refine s_ ?_;simp)
    exact .inr ⟨c,hD⟩
  have zj:j=(Wz b q).length:=by simp at zt;omega
  subst zj;repeat(refine s_ ?_;simp[hw])
  exact lkB (zz G ⟨by omega,gv,by have:=Qe gx;omega⟩ (by omega))
 have zv:i=(Wz a p).length:=by simp at yh;omega
 subst zv;rw[zp]at hv;repeat(refine s_ ?_;simp)
 exact .inl hv
end
section
open Go.Maps Go.RowKit
attribute [simp] w3d q39
def Se(a b:Int):Int:=if a<b then -1 else if b<a then 1 else 0
def orE(x y:Int):Int:=if x≠0 then x else y
def c0l(a:Int):PC prog 200 [.i a] (λr=>r= .bool false):=by refine pcB func200 results200 ntmps200 ?_;simp only[Qd];repeat(refine s_ ?_;simp)
def Bx(a b:Int):PC prog 133 [.i a,.i b] (λr=>r= .i (Se a b)):=by
 refine pcB func133 results133 ntmps133 ?_;simp only[Qd];repeat(refine s_ ?_;simp)
 refine pcL (c0l a) ?_;simp;repeat(refine s_ ?_;simp)
 refine pcL (c0l b) ?_;simp;repeat(refine s_ ?_;simp)
 refine Qk rfl ?_;repeat(refine s_ ?_;simp)
 refine Qk rfl ?_;repeat(refine s_ ?_;simp)
 refine Qa rfl (λh=>?_) (λh=>?_)
 ·repeat(refine s_ ?_;simp)
  rw[Se,if_pos (by simpa using h)]
 repeat(refine s_ ?_;simp)
 refine Qa rfl (λh1=>?_) (λh1=>?_)
 ·repeat(refine s_ ?_;simp)
  rw[Se,if_neg (by simpa using h),if_pos (by simpa using h1)]
 repeat(refine s_ ?_;simp)
 rw[Se,if_neg (by simpa using h),if_neg (by simpa using h1)]
def z2i(x y:Int):PC prog 132 [LI [x,y]] (λr=>r= .i (orE x y)):=by
 refine pcB func132 results132 ntmps132 ?_;simp only[Qd];have w1:IntKind.i64.wrap 1=1:=by decide
 have w2:IntKind.i64.wrap 2=2:=by decide
 repeat(refine s_ ?_;simp)
 refine Qr 2 (λj=>j=0\/x=0/\(j=1\/y=0)) (λj=>[(3,.i 0),(6,LI [x,y]),(7,.i (2:Nat)),(8,.i j)]) (λ_=>[]) rfl (by simp) (by simp) (by simp) (by simp) (.inl rfl) ?_;intro j hj hI ih;repeat(refine s_ ?_;simp)
 refine Qa rfl (λz8=>?_) (λza=>?_)
 ·have z1:j<2:=by simp at z8;omega
  have hw:=wz j (by omega);obtain rfl|rfl:j=0\/j=1:=by omega
  ·repeat(refine s_ ?_;simp)
   refine Qa rfl (λh=>?_) (λh=>?_)
   ·repeat(refine s_ ?_;simp)
    rw[orE,if_pos (by simpa using h)]
   have h0:x=0:=by simpa using h
   repeat(refine s_ ?_;simp[w1])
   refine Qt _ (ih z1 (.inr ⟨h0,.inl rfl⟩)) rfl (by simp) ?_ (by simp) (by simp);simp
  have hx:x=0:=by rcases hI with h|h;exact absurd h (by decide);exact h.1
  repeat(refine s_ ?_;simp)
  refine Qa rfl (λh=>?_) (λh=>?_)
  ·repeat(refine s_ ?_;simp)
   rw[orE,if_neg (by simpa using hx)]
  have h0:y=0:=by simpa using h
  repeat(refine s_ ?_;simp[w2])
  refine Qt _ (ih z1 (.inr ⟨hx,.inr h0⟩)) rfl (by simp) ?_ (by simp) (by simp);simp
 have z6:j=2:=by simp at za;omega
 subst z6;have z7:x=0/\y=0:=by
  rcases hI with h|⟨h1,h2⟩
  ·exact absurd h (by decide)
  exact⟨h1,h2.elim (λh=>absurd h (by decide)) id⟩
 repeat(refine s_ ?_;simp)
 rw[orE,z7.1,z7.2];rfl
def j26(x y:Sy):Int:=orE (Se x.ty y.ty) (Se x.num y.num)
def w08(x y:Stp):Int:=j26 x.1 y.1
def z0k(x y:Int×Int):Int:=orE (Se x.1 y.1) (Se x.2 y.2)
def j2c(x y:Int×Int):Bool:=decide (x.1<y.1) || (decide (x.1=y.1) && decide (x.2<y.2))
def q25(a b c d:Int):decide (orE (Se a b) (Se c d)<0)=(decide (a<b) || (decide (a=b) && decide (c<d))):=by
 rw[x_];simp only[decide_eq_true_eq,vD,z_];unfold orE Se;by_cases h1:a<b
 ·simp[h1]
 by_cases h2:b<a
 ·rw[if_neg h1,if_pos h2];simp;omega
 rw[if_neg h1,if_neg h2];have h3:a=b:=by omega
 simp[h3];by_cases h4:c<d
 ·simp[h4]
 by_cases h5:d<c
 ·simp[h4,h5]
 simp[h4,h5]
def j0v(x y:Sy):PC prog 197 [encSy x,encSy y] (λr=>r= .i (j26 x y)):=by
 refine pcB func197 results197 ntmps197 ?_;simp only[Qd];simp only[encSy];repeat(refine s_ ?_;simp)
 refine drT [] (.pv 0 4 (.pv 5 4 (.one 4 (.one 9 (.one 10 (.one 11 (.val 12 (.done)))))))) ?_;simp;refine pcL (Bx x.ty y.ty) ?_;simp;refine pcL (Bx x.num y.num) ?_;simp;refine P4 rfl rfl (by first|(simp;done)|(simp;rfl)) (z2i (Se x.ty y.ty) (Se x.num y.num)) rfl ?_;rintro _ rfl;refine⟨by first|simp|rfl|trivial,?_⟩;simp;repeat(refine s_ ?_;simp)
 rfl
def d1m(x y:Stp):PC prog 196 [E8 x,E8 y] (λr=>r= .i (w08 x y)):=by
 refine pcB func196 results196 ntmps196 ?_;simp only[Qd];simp only[E8];repeat(refine s_ ?_;simp)
 refine pcL (j0v x.1 y.1) ?_;simp;repeat(refine s_ ?_;simp)
 rfl
def k17(x y:Int×Int):PC prog 131 [pqr x,pqr y] (λr=>r= .i (z0k x y)):=by
 refine pcB func131 results131 ntmps131 ?_;simp only[Qd];simp only[pqr];repeat(refine s_ ?_;simp)
 refine drT [] (.pv 0 4 (.pv 5 4 (.one 4 (.one 9 (.one 10 (.one 11 (.val 12 (.done)))))))) ?_;simp;refine pcL (Bx x.1 y.1) ?_;simp;refine pcL (Bx x.2 y.2) ?_;simp;refine P4 rfl rfl (by first|(simp;done)|(simp;rfl)) (z2i (Se x.1 y.1) (Se x.2 y.2)) rfl ?_;rintro _ rfl;refine⟨by first|simp|rfl|trivial,?_⟩;simp;repeat(refine s_ ?_;simp)
 rfl
end
section
open Go.Maps Go.RowKit
open Go.Shelf Go.Lib Go.Sort in
def y07(x y:Stp):ltOf w08 x y=L5 x.1 y.1:=q25 ..
open Go.Shelf Go.Lib Go.Sort in
def v09(x y:Int×Int):ltOf z0k x y=j2c x y:=q25 ..
def w2o{α:Type}(f g:α->Int):Go.Sort.SWO (λx y=>decide (f x<f y) || (decide (f x=f y) && decide (g x<g y))) where
 irrefl x:=by simp
 trans x y z h1 h2:=by simp only[vD,z_,decide_eq_true_eq]at *;omega
 ntrans x y z h1 h2:=by rw[<-Bool.not_eq_true]at *;simp only[vD,z_,decide_eq_true_eq]at *;omega
open Go.Shelf Go.Lib Go.Sort in
def v1l:SWO (ltOf w08):=by
 have h:ltOf w08=λx y:Stp=>decide (x.1.ty<y.1.ty) || (decide (x.1.ty=y.1.ty) && decide (x.1.num<y.1.num)):=by funext x y;exact y07 x y
 rw[h];exact w2o (λx:Stp=>x.1.ty) (λx:Stp=>x.1.num)
open Go.Shelf Go.Lib Go.Sort in
def v1q:SWO (ltOf z0k):=by
 have h:ltOf z0k=λx y:Int×Int=>decide (x.1<y.1) || (decide (x.1=y.1) && decide (x.2<y.2)):=by funext x y;exact v09 x y
 rw[h];exact w2o (λx:Int×Int=>x.1) (λx:Int×Int=>x.2)
end
end Go.Abs
namespace Go.Proofs
open Go.Shelf
def Tryz.sortLd_ren:Go.Shelf.Ren:=⟨λ|6=>195|15=>199|14=>235|28=>244|29=>245|20=>283|21=>284|22=>285|23=>286|24=>287|25=>288|26=>289|27=>290|46=>313|47=>292|48=>293|49=>314|50=>315|57=>324|n=>n,λ|22=>245|24=>184|25=>252|3=>3|39=>189|0=>0|53=>255|55=>258|4=>4|46=>291|45=>290|50=>112|5=>5|9=>9|66=>327|70=>331|76=>349|77=>350|n=>n,λ|n=>n⟩
def Tryz.sortLd:Go.Proofs.SlLaysF0.n6 prog Tryz.sortLd_ren:={
 mixed:=by kernel_rfl
 f6:=⟨Tryz.f195.name,by decide,func195.trans (congrArg some (by kernel_rfl))⟩
 f14:=⟨Tryz.f235.name,by decide,func235.trans (congrArg some (by kernel_rfl))⟩
 f15:=func199.trans (congrArg some (by kernel_rfl))
 f20:=⟨Tryz.f283.name,by decide,func283.trans (congrArg some (by kernel_rfl))⟩
 f21:=⟨Tryz.f284.name,by decide,func284.trans (congrArg some (by kernel_rfl))⟩
 f22:=⟨Tryz.f285.name,by decide,func285.trans (congrArg some (by kernel_rfl))⟩
 f23:=⟨Tryz.f286.name,by decide,func286.trans (congrArg some (by kernel_rfl))⟩
 f24:=⟨Tryz.f287.name,by decide,func287.trans (congrArg some (by kernel_rfl))⟩
 f25:=⟨Tryz.f288.name,by decide,func288.trans (congrArg some (by kernel_rfl))⟩
 f26:=⟨Tryz.f289.name,by decide,func289.trans (congrArg some (by kernel_rfl))⟩
 f27:=⟨Tryz.f290.name,by decide,func290.trans (congrArg some (by kernel_rfl))⟩
 f28:=func244.trans (congrArg some (by kernel_rfl))
 f29:=func245.trans (congrArg some (by kernel_rfl))
 f46:=⟨Tryz.f313.name,by decide,func313.trans (congrArg some (by kernel_rfl))⟩
 f47:=func292.trans (congrArg some (by kernel_rfl))
 f48:=func293.trans (congrArg some (by kernel_rfl))
 f49:=⟨Tryz.f314.name,by decide,func314.trans (congrArg some (by kernel_rfl))⟩
 f50:=⟨Tryz.f315.name,by decide,func315.trans (congrArg some (by kernel_rfl))⟩
 f57:=⟨Tryz.f324.name,by decide,func324.trans (congrArg some (by kernel_rfl))⟩
 t0:=underlying0
 a0:=isAgg0
 z0:=sizeOf0
 v0:=zeroValue0
 t3:=underlying3
 a3:=isAgg3
 z3:=sizeOf3
 v3:=zeroValue3
 t4:=underlying4
 a4:=isAgg4
 z4:=sizeOf4
 v4:=zeroValue4
 t5:=underlying5
 a5:=isAgg5
 z5:=sizeOf5
 v5:=zeroValue5
 t9:=underlying9
 a9:=isAgg9
 z9:=sizeOf9
 v9:=zeroValue9
 t22:=underlying245
 a22:=isAgg245
 z22:=sizeOf245
 v22:=zeroValue245
 t25:=underlying252
 a25:=isAgg252
 z25:=sizeOf252
 v25:=zeroValue252
 t39:=underlying189
 a39:=isAgg189
 z39:=sizeOf189
 v39:=zeroValue189
 t45:=underlying290
 a45:=isAgg290
 z45:=sizeOf290
 v45:=zeroValue290
 t46:=underlying291
 a46:=isAgg291
 z46:=sizeOf291
 v46:=zeroValue291
 t50:=underlying112
 a50:=isAgg112
 z50:=sizeOf112
 v50:=zeroValue112
 t53:=underlying255
 a53:=isAgg255
 z53:=sizeOf255
 v53:=zeroValue255
 t55:=underlying258
 a55:=isAgg258
 z55:=sizeOf258
 v55:=zeroValue258
 t66:=underlying327
 a66:=isAgg327
 z66:=sizeOf327
 v66:=zeroValue327
 t70:=underlying331
 a70:=isAgg331
 z70:=sizeOf331
 v70:=zeroValue331
 t76:=underlying349
 a76:=isAgg349
 z76:=sizeOf349
 v76:=zeroValue349
 t77:=underlying350
 a77:=isAgg350
 z77:=sizeOf350
 v77:=zeroValue350 }
end Go.Proofs
namespace Go.Abs
open Go Go.Proofs Go.RowKit
section
open Go.Shelf Go.Lib Go.Sort
def Av{w:World}{I:Nat->Prop}{v:Value}{k:IntKind}{n:Int}(h:PVR w I v (.int k n)):v= .int k n:=by cases h;rfl
def Fb(x:Stp):List Value:=[.int .i64 x.1.ty,.int .i64 x.1.num,.int .i64 x.2.1,.int .i64 x.2.2]
def q3k(x y:Stp):ltOf w08 x y=L5 x.1 y.1:=y07 x y
def j27{w:World}{I:Nat->Prop}{l:List (Stp)}{F:Array Value}(hR:RowW w I 4 (l.map E8) F):flatK Fb 4 l.toArray=F:=by
 have z1:F.size=l.length * 4:=by have:=hR.size;simpa using this
 refine ext_get! (by simp[z1]) λt ht=>?_;have z6:t<l.length * 4:=by simpa using ht
 rw[get_flatK _ _ _ _ (by simpa using z6)];have hi:t / 4<l.length:=by omega
 rw[getElem!_pos l.toArray _ (by simpa using hi)];have hx:(l.map E8)[t / 4]?=some (E8 l[t / 4]):=by simp[hi]
 have c0:=Av (hR.cell _ _ hx 0 _ rfl);have c1:=Av (hR.cell _ _ hx 1 _ rfl);have c2:=Av (hR.cell _ _ hx 2 _ rfl);have c3:=Av (hR.cell _ _ hx 3 _ rfl);have e0:l.toArray[t / 4]'(by simpa using hi)=l[t / 4]:=by simp
 rw[e0];have hm:t % 4=0\/t % 4=1\/t % 4=2\/t % 4=3:=by omega
 rcases hm with h|h|h|h<;>rw[h]
 ·have e1:t / 4 * 4+0=t:=by omega
  rw[e1]at c0;rw[c0];rfl
 ·have e1:t / 4 * 4+1=t:=by omega
  rw[e1]at c1;rw[c1];rfl
 ·have e1:t / 4 * 4+2=t:=by omega
  rw[e1]at c2;rw[c2];rfl
 have e1:t / 4 * 4+3=t:=by omega
 rw[e1]at c3;rw[c3];rfl
def d0h(H:List AObj)(p:Nat)(l:List (Stp))(hp:H[p]?=some (.arr 184 4 (l.map E8)))(hl:l.length<=100000000):
  FC prog 195 [.sl p 4 0 l.length,.fn (.func 196) [] []] H
   (λr H'=>r= .tup []/\∃l':List (Stp),l'.Perm l/\l'.Pairwise (λx y=>L5 y.1 x.1=false)/\H'=H.set p (.arr 184 4 (l'.map E8))):=by
 refine(y0k (xs:=l.map E8) (Ts func195 rfl rfl) (by simp) hp [.func (.func 196) #[] #[]] (λw I m vs a b=>K4 _ w I m _ vs a b) (λz8=>∃l':List (Stp),l'.Perm l/\l'.Pairwise (λx y=>L5 y.1 x.1=false)/\z8=l'.map E8) ?_ ?_).mono ?_
 ·intro w I b cap F hE hI zc hR hH hb hc;by_cases z6:l=[]
  ·subst z6;refine Calls.mono (AnyF.slices_SortFunc_none Tryz.sortLd (some ⟨b,0,none⟩) cap _ w) ?_;rintro e w' ⟨rfl,rfl⟩;refine⟨rfl,[],F,0,#[],⟨[],.refl _,.nil,rfl⟩,rfl,hR,?_⟩;rw[grow_empty];exact(putRow_self id w' b 0 F hH).symm
  have zd:0<l.length:=List.length_pos_iff.2 z6;have eg:∀args w,(callFunc 196 args).run prog w= .ok (.enter 196 args) w:=enters_of func196 (by kernel_rfl) rfl;have ze:=j27 hR;have zf:HoldsK Fb 4 w b 0 l.toArray:=by unfold HoldsK;rw[ze];exact hH
  have z7:CmpLays prog 196 #[] Fb 4 w08 b 0 l.toArray.size w:=λq os dk hs x y=>by
   have hW:∀c,I c->(sortWorldK Fb 4 w b 0 q dk os).heap[c]? =w.heap[c]? :=λc za=>by have zg:=hI c za;have zh:b≠c:=λe=>zc (e▸za);simp only[sortWorldK,grow,putRowK,putRow,mapBlock,Sort.ahead];rw[Array.getElem?_append_left (by simpa using zg),Array.getElem?_modify,if_neg zh]
   have zb:∀z:Stp,PVR w I (.agg (Fb z).toArray) (E8 z):=λz=>by
    refine .agg _ _ (by simp[Fb]) λi v x' hv z1=>?_
    match i,hv,z1 with
    |0,hv,z1=>simp[Fb]at hv z1;subst hv z1;exact .int _ _
    |1,hv,z1=>simp[Fb]at hv z1;subst hv z1;exact .int _ _
    |2,hv,z1=>simp[Fb]at hv z1;subst hv z1;exact .int _ _
    |3,hv,z1=>simp[Fb]at hv z1;subst hv z1;exact .int _ _
    |k+4,hv,z1=>simp[Fb]at hv
   refine(d1m x y).laid hE hI hW (by simp) λi v x' hv z1=>?_
   match i,hv,z1 with
   |0,hv,z1=>simp at hv z1;subst hv z1;exact zb x
   |1,hv,z1=>simp at hv z1;subst hv z1;exact zb y
  have:=AnyQ.slices_SortFunc Tryz.sortLd 4 isAgg184 sizeOf184 Fb (λ_=>rfl) (λx v hv=>by simp[Fb]at hv;rcases hv with rfl|rfl|rfl|rfl<;>rfl) w08 v1l 196 #[] b 0 cap l.toArray w eg z7 zf hb (by simp;omega);rw[show(l.toArray).size=l.length by simp]at this;refine Calls.mono this ?_;rintro e w' ⟨rfl,d',n,os,h1,h2,rfl⟩;obtain⟨s1,_,s3⟩:=h1;have hs:d'.toList.length=l.length:=by simpa using s1
  refine⟨rfl,d'.toList.map E8,flatK Fb 4 d',n,os,⟨d'.toList,?_,?_,rfl⟩,by simp[hs],⟨by simp,λx hx=>?_,λi x hx j y hy=>?_⟩,rfl⟩
  ·rw[show d'.extract 0 l.length=d' by simp[<-hs],show l.toArray.extract 0 l.length=l.toArray by simp]at s3;simpa using s3
  ·refine List.pairwise_iff_getElem.2 λi j hi hj zi=>?_;have:=h2 i j (xA _) zi (by omega);rw[q3k,getElem!_pos d' i (by simpa using hi),getElem!_pos d' j (by simpa using hj)]at this;simpa using this
  ·obtain⟨z,_,rfl⟩:=zO.1 hx;rfl
  rw[zU]at hx;obtain⟨z,hz,rfl⟩:=zQ.1 hx;obtain⟨hi,rfl⟩:=zB.1 hz;have hj:j<4:=(zB.1 hy).1;have zj:i<d'.size:=by simpa using hi
  rw[get_flatK _ _ _ _ (by omega)];rw[show(i * 4+j) / 4=i by omega,show(i * 4+j) % 4=j by omega];rw[getElem!_pos d' i zj]
  match j,hj,hy with
  |0,_,hy=>simp[E8,AV.cells]at hy;subst hy;exact .int _ _
  |1,_,hy=>simp[E8,AV.cells]at hy;subst hy;exact .int _ _
  |2,_,hy=>simp[E8,AV.cells]at hy;subst hy;exact .int _ _
  |3,_,hy=>simp[E8,AV.cells]at hy;subst hy;exact .int _ _
 ·rintro h;have z6:l=[]:=by
   cases l with
   |nil=>rfl
   |cons x r=>simp at h
  subst z6;exact⟨⟨[],.refl _,.nil,rfl⟩,λw=>AnyF.slices_SortFunc_none Tryz.sortLd none 0 _ w⟩
 rintro r H' ⟨rfl,z8,⟨l',h1,h2,rfl⟩,rfl⟩;exact⟨rfl,l',h1,h2,rfl⟩
end
section
open Go.Maps
def u0e:(prog).underlying 66=some (.array 2 3):=by kernel_rfl
def z2p:(prog).underlying 3=some (.int .i64):=by kernel_rfl
def y09:(prog).cellsOf 66=2:=by kernel_rfl
def y1d:(prog).cellsOf 3=1:=by kernel_rfl
def k2j:(prog).keyType 66=true:=by kernel_rfl
def v1z:laidOutB prog=true:=by kernel_rfl
def k2g:(prog).keyTypeAt 3 66=true:=by kernel_rfl
def w22:66<(prog).types.size:=of_decide_eq_true (by kernel_rfl)
def V4:Keyed prog 66:=Keyed.of_law (deep_law_laid v1z (m:=3) (by decide) w22 k2g (by rw[u0e]))
def kyP(s:Int×Int):AV:= .agg [.i s.1,.i s.2]
def okK(s:Int×Int):Prop:=(0<=s.1/\s.1<=1000000)/\(0<=s.2/\s.2<=1000000)
def c04{s t:Int×Int}(h:kyP s=kyP t):s=t:=by unfold kyP at h;simp at h;exact u6 h.1 h.2
def keyLits_int(d:Nat){z:Int}(h:0<=z/\z<=1000000):(prog).keyLits (d+1) 3 [.int .i64 z]=some [.int .i64 z]:=by unfold Program.keyLits;rw[z2p];simp[w2q h]
def f0t(d:Nat){s:Int×Int}(h:okK s):(prog).keyLits (d+2) 66 [.int .i64 s.1,.int .i64 s.2]=some [.int .i64 s.1,.int .i64 s.2]:=by unfold Program.keyLits;rw[u0e];simp only[y09,y1d,yZ,uQ,if_true];have h1:=keyLits_int d h.1;have h2:=keyLits_int d h.2;simp[wQ,h1,h2]
def types_size:∃d,(prog).types.size+1=d+2:=⟨(prog).types.size - 1,by have:=w22;omega⟩
def H7{s:Int×Int}(h:okK s):isKey prog 66 (kyP s):=by
 refine⟨.agg #[.int .i64 s.1,.int .i64 s.2],.string (keyBytes [.int .i64 s.1,.int .i64 s.2]),rfl,?_⟩;obtain⟨d,hd⟩:=types_size;unfold keyOf;rw[u0e];simp only;have hf:Value.formed prog 66 (.agg #[.int .i64 s.1,.int .i64 s.2])=true:=by unfold Value.formed;rw[u0e,y09];rfl
 rw[k2j,hf,hd];have:(Value.agg #[.int .i64 s.1,.int .i64 s.2]).cells.toList=[.int .i64 s.1,.int .i64 s.2]:=rfl;rw[this,f0t d h];rfl
abbrev Gy:=List ((Int×Int)×Nat)
def kvN(near:Gy):List (AV×AV):=near.map λe=>(kyP e.1,.i e.2)
def mpN(near:Gy):AObj:= .mp (kvN near)
structure NK (near:Gy):Prop where
 nd:(near.map (·.1)).Nodup
 ok:∀e∈near,okK e.1
def x21{near:Gy}(h:NK near){j:Nat}{e:(Int×Int)×Nat}(he:near[j]?=some e):lkN near e.1=some e.2:=by
 unfold lkN;cases hf:near.find? (λe'=>decide (e'.1=e.1))with
 |none=>rw[List.find?_eq_none]at hf;have:=hf e (zJ he);simp at this
 |some e'=>
  have h1:e'.1=e.1:=by simpa using List.find?_some hf
  have h2:=List.mem_of_find?_eq_some hf;obtain⟨i,hi,rfl⟩:=yX h2;obtain⟨hj,rfl⟩:=zB.1 he;have h3:i=j:=by have:=(List.getElem_inj (h₀:=by simpa using hi) (h₁:=by simpa using hj) h.nd).1 (by simpa using h1);exact this
  subst h3;rfl
def q1i{near:Gy}(h:NK near):∀p∈kvN near,isKey prog 66 p.1:=λp hp=>by obtain⟨e,he,rfl⟩:=zO.1 hp;exact H7 (h.ok e he)
section
variable {nt k:Nat} {S:AS} {ops:Array Oper} {o:Oper} {R:AS->Prop}
def I6 {wr:Bool} (hw:Qn ops S o=some true) (hd:Wx nt o=true) {x ix:Operand} (ho:o.op= .lookup 109 x ix true) {id:Nat} (hx:rho S.sl x=some (.mref id)) {s:Int×Int} (z1:rho S.sl ix=some (.agg [.i s.1,.i s.2])) {near:Gy} (z6:S.hp[id]?=some (mpN near)) (hn:NK near) (hs:okK s)
  (hR:R (S.putD o.dst (.tup [.i ((lkN near s).getD 0:Nat),.bool (lkN near s).isSome]))):Q7 prog nt k wr ops o S R:=by
 refine U7 tOk hw hd ho g27 rfl T3 V4 hx z1 z6 (H7 hs) (q1i hn) (z:= .i 0) rfl (λj p hp he=>?_) (λz7=>?_)
 ·unfold kvN at hp;rw[zU]at hp;obtain⟨e,z8,rfl⟩:=zQ.1 hp;have za:e.1=s:=c04 he;rw[<-za,x21 hn z8]at hR;exact hR
 have:lkN near s=none:=by rw[H5];intro hm;obtain⟨e,he,rfl⟩:=zO.1 hm;exact z7 _ (zO.2 ⟨e,he,rfl⟩) rfl
 rw[this]at hR;exact hR
def X6 (hw:Qn ops S o=some true) (hd:Wx nt o=true) {x ix y:Operand} (ho:o.op= .mapUpdate 109 x ix y) {id:Nat} (hx:rho S.sl x=some (.mref id)) {s:Int×Int} (z1:rho S.sl ix=some (.agg [.i s.1,.i s.2])) {d:Nat} (hy:rho S.sl y=some (.i d)) {near:Gy} (z6:S.hp[id]?=some (mpN near)) (hn:NK near) (hs:okK s)
  (z7:s∉near.map (·.1)) (hR:R (({ S with hp:=S.hp.set id (mpN (near++[(s,d)])) }:AS).putD o.dst (.tup []))):Q7 prog nt k true ops o S R:=by
 refine Ey tOk hw hd ho g27 rfl V4 hx z1 hy (by simp[AV.pure]) z6 (H7 hs) (q1i hn) (λj p hp he=>?_) (λzb=>?_)
 ·unfold kvN at hp;rw[zU]at hp;obtain⟨e,z8,rfl⟩:=zQ.1 hp;have za:e.1=s:=c04 he;exact absurd (zO.2 ⟨e,zJ z8,za⟩) z7
 have:kvN near++[(kyP s,.i d)]=kvN (near++[(s,d)]):=by simp[kvN]
 unfold mpN at hR;rw[<-this]at hR;exact hR
end
end
end Go.Abs
