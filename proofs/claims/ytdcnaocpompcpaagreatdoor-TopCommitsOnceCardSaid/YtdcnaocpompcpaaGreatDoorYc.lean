/- Part Yc of the proof: steps on the way to the last part. No condition. -/
import Derived.Test.YtdcnaocpompcpaaGreatDoorYb
import Derived.Lib.MakeNoZero
import Derived.Carry
import Derived.Maps.Keyed
import Derived.Laws.MakeOwn
import Derived.Shelf.GgSortFunc.RowK
import Derived.Shelf.SlSortCmp.WholeK
import Derived.Shelf.SlSortCmp.NoneTotal
import Derived.Test.YtdcnaocpompcpaaGreatDoorChecked
import Derived.KernelRfl
import Derived.Lib.LaidTab
import Derived.Lib.ItoaNum
import Derived.Test.YtdcnaocpompcpaaGreatDoorYa
set_option linter.all false
open Bool renaming and_eq_true->zV
open List renaming all_eq_true->zU,replicate->zG,length_map->xj,getElem?_replicate->xp,getElem?_eq_some_iff->zD,getElem?_map->zY,mem_of_getElem?->zE,getElem?_set_self->zL,getElem?_set_ne->zI,mem_of_mem_drop->xX,mem_of_mem_take->xz,getElem?_take->yE,getElem?_drop->yQ,mem_iff_getElem?->yX,getElem_mem->yw,getElem?_eq_getElem->zH,eq_nil_of_length_eq_zero->yS,length_nil->wt,size_toArray->yA,nil_append->wb,mem_append->xg,getElem?_append_left->zJ,getElem?_append_right->zF,getElem?_toArray->wh,length_set->xS,mem_map->xd,length_append->zK,ext_getElem?->xW,mem_cons->yZ,mem_singleton->yU,mem_cons_self->wO,mem_cons_of_mem->xo,cons_append->xL,length_cons->yG,flatMap_cons->wd,append_assoc->yH,take_left'->ua,drop_left'->ub,foldl_nil->wW,append_nil->xM,flatMap_append->w9,takeWhile_cons->x7,take_of_length_le->zX,take_append_drop->yI,drop_eq_getElem_cons->yR,take_succ_eq_append_getElem->yM,take_length->yW,getElem?_set->zZ
open Array renaming replicate->wo,getD_eq_getD_getElem?->xB,size_append->x8,getElem?_append_left->yB,getElem?_append_right->xQ
open Nat renaming le_refl->zR,mul_le_mul_right->zW,add_mul->z_,mul_comm->wm,mod_eq_of_lt->wa,zero_add->yO,eq_zero_or_pos->xn,eq_of_mul_eq_mul_right->xi,zero_mul->vg,le_succ->vl,add_zero->wg,add_assoc->xK,mod_lt->uw,le_of_ble_eq_true->vy,pow_add->ui,zero_le->yL
open Option renaming map_some->xH,map_eq_some_iff->zM,getD_some->xE
open Int renaming le_refl->wj,toNat_natCast->xa
set_option maxHeartbeats 8000000
set_option linter.unusedSimpArgs false
set_option maxRecDepth 100000
open Go.Proofs.Tryz
namespace Go.Abs
open Go
section
open Go.RowKit
section
variable {P:Program} [Env P] {T:TT} {nt k:Nat} {S:AS} {ops:Array Oper} {o:Oper} {R:AS->Prop} {Q:Exit->AS->Prop}
end
end
section
open Go.RowKit Go.Maps
section
variable {P:Program} [Env P] {T:TT} {nt k:Nat} {S:AS} {ops:Array Oper} {o:Oper} {R:AS->Prop} {Q:Exit->AS->Prop}
end
end
section
open Go.RowKit
inductive PlanM where
 |done
 |val (i:Nat) (p:PlanM)
 |one (i:Nat) (p:PlanM)
 |two (i:Nat) (p:PlanM) (j:Nat) (q:PlanM)
 |three (i:Nat) (p:PlanM) (j:Nat) (q:PlanM) (m:Nat) (r:PlanM)
 |four (i:Nat) (p:PlanM) (j:Nat) (q:PlanM) (m:Nat) (r:PlanM) (n:Nat) (s:PlanM)
def PlanM.size:PlanM->Nat
 | .done=>0
 | .val _ p=>p.size+1
 | .one _ p=>p.size+1
 | .two _ p _ _=>p.size+1
 | .three _ p _ _ _ _=>p.size+1
 | .four _ p _ _ _ _ _ _=>p.size+1
def Ea(ops:Array Oper)(cl:List (List Nat))(Wr:List Nat):PlanM->Array Bool->Bool
 | .done,l=>(Region.ready .any ops l).isEmpty
 | .val i p,l=>(match ops[i]? with
   |none=>false
   |some o=>isVal o.op && Hn ops cl Wr l i && (Region.ready .any ops l).contains i) && Ea ops cl Wr p (l.setIfInBounds i true)
 | .one i p,l=>(ops[i]?).isSome && Region.ready .any ops l==[i] && Ea ops cl Wr p (l.setIfInBounds i true)
 | .two i p j q,l=>(ops[i]?).isSome && (ops[j]?).isSome && Region.ready .any ops l==[i,j] && p.size==q.size && Ea ops cl Wr p (l.setIfInBounds i true) && Ea ops cl Wr q (l.setIfInBounds j true)
 | .three i p j q m r,l=>(ops[i]?).isSome && (ops[j]?).isSome && (ops[m]?).isSome && Region.ready .any ops l==[i,j,m] && p.size==q.size && p.size==r.size && Ea ops cl Wr p (l.setIfInBounds i true) && Ea ops cl Wr q (l.setIfInBounds j true) && Ea ops cl Wr r (l.setIfInBounds m true)
 | .four i p j q m r n t,l=>(ops[i]?).isSome && (ops[j]?).isSome && (ops[m]?).isSome && (ops[n]?).isSome && Region.ready .any ops l==[i,j,m,n] && p.size==q.size && p.size==r.size && p.size==t.size && Ea ops cl Wr p (l.setIfInBounds i true) && Ea ops cl Wr q (l.setIfInBounds j true) && Ea ops cl Wr r (l.setIfInBounds m true) && Ea ops cl Wr t (l.setIfInBounds n true)
def Q6(P:Program)[Env P](T:TT)(nt k:Nat)(ops:Array Oper)(W:Nat->Bool)(Q:AS->Prop):PlanM->AS->Prop
 | .done,S=>Q S
 | .val i p,S=>stepT P T nt k ops W i (Q6 P T nt k ops W Q p) S
 | .one i p,S=>Rj P T nt k ops W i (Q6 P T nt k ops W Q p) S
 | .two i p j q,S=>Rj P T nt k ops W i (Q6 P T nt k ops W Q p) S/\Rj P T nt k ops W j (Q6 P T nt k ops W Q q) S
 | .three i p j q m r,S=>Rj P T nt k ops W i (Q6 P T nt k ops W Q p) S/\Rj P T nt k ops W j (Q6 P T nt k ops W Q q) S/\Rj P T nt k ops W m (Q6 P T nt k ops W Q r) S
 | .four i p j q m r n t,S=>Rj P T nt k ops W i (Q6 P T nt k ops W Q p) S/\Rj P T nt k ops W j (Q6 P T nt k ops W Q q) S/\Rj P T nt k ops W m (Q6 P T nt k ops W Q r) S/\Rj P T nt k ops W n (Q6 P T nt k ops W Q t) S
section
variable {P:Program} [Env P] {T:TT} {nt k:Nat} {S:AS} {ops:Array Oper} {o:Oper} {R:AS->Prop} {Wr:List Nat}
def E9(hT:TOk P T){C:Cx P}(hd:Yv nt ops.toList=true)(zb:Region.noSelect ops=true):∀(p:PlanM) (listed:Array Bool) (S:AS) (a:Act) (w:World),U7 ops listed->Ea ops (Y7 ops.toList []) Wr p listed=true->Q6 P T nt k ops Wr.contains R p S->St C nt k S a w->
  Sd P ops Wr (q0l C nt k R) p.size listed a w
 | .done,listed,S,a,w,_,hp,h,hs=>⟨by simpa[Ea]using hp,S,h,hs⟩
 | .val i p,listed,S,a,w,za,hp,h,hs=>by
  unfold Ea at hp;unfold Q6 stepT at h;rw[zV]at hp;obtain⟨zi,zc⟩:=hp;cases ho:ops[i]? with
  |none=>rw[ho]at h;exact h.elim
  |some o=>
   rw[ho]at h zi;simp only at h zi;have zm:Ei nt o=true:=zU.1 hd o (by simpa using Array.mem_of_getElem? ho);simp only[zV]at zi;obtain⟨⟨hv,hf⟩,hr⟩:=zi;have zn:Iv o.op=true:=by cases hop:o.op<;>rw[hop]at hv<;>first|rfl|exact hv|(simp[isVal]at hv)
   rw[if_pos zn]at h;have z1:i∈Region.ready .any ops listed:=by simpa using hr
   split at h
   ·rename_i S' zo;obtain⟨v,hy,z8⟩:=hs.yields hT zm hv zo;exact Is ho (Region.noSelect_spec zb) (λc a w hq=>hq) (λx y=>Yk o.op=true->T7 x y) (λw _=>T7.refl w) (λx y z h1 h2 hr=>(h1 hr).trans (h2 hr)) p.size listed a w
     (λj oj hj zp zq zr=>Ki ho hf j oj hj zp zq zr) za z1 hy (E9 hT hd zb p _ S' _ w (za.set z1) zc h.2 z8)
   exact h.elim
 | .one i p,listed,S,a,w,za,hp,h,hs=>by
  unfold Ea at hp;simp only[zV,beq_iff_eq]at hp;obtain⟨⟨_,z1⟩,zc⟩:=hp;have zt:i∈Region.ready .any ops listed:=by rw[z1];simp
  refine⟨λh0=>(by rw[z1]at h0;cases h0),λj hj=>?_⟩;rw[z1]at hj;obtain rfl:j=i:=by simpa using hj
  exact Ry hT hd h hs λS' a' w' hR z8=>E9 hT hd zb p _ S' a' w' (za.set zt) zc hR z8
 | .two i p j q,listed,S,a,w,za,hp,h,hs=>by
  unfold Ea at hp;simp only[zV,beq_iff_eq]at hp;obtain⟨⟨⟨⟨_,z1⟩,ze⟩,zc⟩,zf⟩:=hp;have zg:i∈Region.ready .any ops listed:=by rw[z1];simp
  have zh:j∈Region.ready .any ops listed:=by rw[z1];simp
  refine⟨λh0=>(by rw[z1]at h0;cases h0),λm hm=>?_⟩;rw[z1]at hm;rcases(by simpa using hm:m=i\/m=j)with rfl|rfl
  ·exact Ry hT hd h.1 hs λS' a' w' hR z8=>E9 hT hd zb p _ S' a' w' (za.set zg) zc hR z8
  refine Ry hT hd h.2 hs λS' a' w' hR z8=>?_;have:=E9 hT hd zb q _ S' a' w' (za.set zh) zf hR z8;rw[<-ze]at this;exact this
 | .three i p j q g r,listed,S,a,w,za,hp,h,hs=>by
  unfold Ea at hp;simp only[zV,beq_iff_eq]at hp;obtain⟨⟨⟨⟨⟨⟨_,z1⟩,ze⟩,zd⟩,zc⟩,zf⟩,zj⟩:=hp;have zg:i∈Region.ready .any ops listed:=by rw[z1];simp
  have zh:j∈Region.ready .any ops listed:=by rw[z1];simp
  have zk:g∈Region.ready .any ops listed:=by rw[z1];simp
  refine⟨λh0=>(by rw[z1]at h0;cases h0),λm hm=>?_⟩;rw[z1]at hm;rcases(by simpa using hm:m=i\/m=j\/m=g)with rfl|rfl|rfl
  ·exact Ry hT hd h.1 hs λS' a' w' hR z8=>E9 hT hd zb p _ S' a' w' (za.set zg) zc hR z8
  ·refine Ry hT hd h.2.1 hs λS' a' w' hR z8=>?_;have:=E9 hT hd zb q _ S' a' w' (za.set zh) zf hR z8;rw[<-ze]at this;exact this
  refine Ry hT hd h.2.2 hs λS' a' w' hR z8=>?_;have:=E9 hT hd zb r _ S' a' w' (za.set zk) zj hR z8;rw[<-zd]at this;exact this
 | .four i p j q g r n t,listed,S,a,w,za,hp,h,hs=>by
  unfold Ea at hp;simp only[zV,beq_iff_eq]at hp;obtain⟨⟨⟨⟨⟨⟨⟨⟨_,z1⟩,ze⟩,zd⟩,zl⟩,zc⟩,zf⟩,zj⟩,zu⟩:=hp;have zg:i∈Region.ready .any ops listed:=by rw[z1];simp
  have zh:j∈Region.ready .any ops listed:=by rw[z1];simp
  have zk:g∈Region.ready .any ops listed:=by rw[z1];simp
  have zv:n∈Region.ready .any ops listed:=by rw[z1];simp
  refine⟨λh0=>(by rw[z1]at h0;cases h0),λm hm=>?_⟩;rw[z1]at hm;rcases(by simpa using hm:m=i\/m=j\/m=g\/m=n)with rfl|rfl|rfl|rfl
  ·exact Ry hT hd h.1 hs λS' a' w' hR z8=>E9 hT hd zb p _ S' a' w' (za.set zg) zc hR z8
  ·refine Ry hT hd h.2.1 hs λS' a' w' hR z8=>?_;have:=E9 hT hd zb q _ S' a' w' (za.set zh) zf hR z8;rw[<-ze]at this;exact this
  ·refine Ry hT hd h.2.2.1 hs λS' a' w' hR z8=>?_;have:=E9 hT hd zb r _ S' a' w' (za.set zk) zj hR z8;rw[<-zd]at this;exact this
  refine Ry hT hd h.2.2.2 hs λS' a' w' hR z8=>?_;have:=E9 hT hd zb t _ S' a' w' (za.set zv) zu hR z8;rw[<-zl]at this;exact this
def Wn (hT:TOk P T) (hm:P.follows .mixedOrders=true) {Q:Exit->AS->Prop} {id:Nat} {l:List Oper} (Wr:List Nat) (p:PlanM) (hd:Yv nt l=true)
  (hp:(Region.noSelect l.toArray && p.size==l.length && Ea l.toArray (Y7 l []) Wr p (wo l.length false))=true)
  (h:Q6 P T nt k l.toArray Wr.contains (Q .normal) p S):AWP P nt k (.region id l.toArray true) Q S:=λC a w hs=>by
 simp only[zV,beq_iff_eq]at hp;obtain⟨⟨h1,h2⟩,h3⟩:=hp;refine Da (wpIn_region_any hm (Oh (Wr:=Wr) _ _ _ _ ?_));have zb:St C nt k S a { w with drawn:=w.drawn+1 }:=by
  obtain⟨I,m,hw,z1,hk,hE⟩:=hs;have hb:Below w.heap.size w { w with drawn:=w.drawn+1 }:=⟨rfl,rfl,rfl,zR _,λ_ _=>rfl⟩
  obtain⟨g1,g2⟩:=hw.step hb (λ_ h=>h) (λb z8=>⟨(hw.iw b z8).1,.inl z8⟩);exact⟨I,m,g1,⟨z1.1,z1.2.1,λt x hx=>by obtain⟨v,hv,hr⟩:=z1.2.2 t x hx;exact⟨v,hv,hr.mono g2 (zR _)⟩⟩,hk,hE.trans hk g2⟩
 have:=E9 hT (C:=C) (nt:=nt) (k:=k) (R:=Q .normal) (by simpa using hd) h1 p (wo l.length false) S a _ (λj o ho hj=>by
  have za:=(Array.getElem?_eq_some_iff.1 ho).1;simp at za;simp[za]at hj) (by simpa using h3) h zb
 rw[h2]at this;simpa using this
def Wx.mono{wr:Bool}{R':AS->Prop}(h:Wx P nt k wr ops o S R)(hr:∀S,R S->R' S):Wx P nt k wr ops o S R':=
 λC a w K Q hs hK=>h C a w K Q hs λS' a' w' hR=>hK S' a' w' (hr S' hR)
def q0e{W:Nat->Bool}{i:Nat}{R':AS->Prop}(hr:∀S,R S->R' S)(h:stepT P T nt k ops W i R S):stepT P T nt k ops W i R' S:=by
 unfold stepT at h |-;split at h
 ·exact h
 split at h
 ·rename_i z1;rw[if_pos z1];split at h
  ·exact⟨h.1,hr _ h.2⟩
  exact h
 rename_i z1;rw[if_neg z1];exact h.mono hr
def Eo{W:Nat->Bool}{i:Nat}{R':AS->Prop}(hr:∀S,R S->R' S)(h:Rj P T nt k ops W i R S):Rj P T nt k ops W i R' S:=by
 unfold Rj at h |-;split at h
 ·exact h
 split at h
 ·rename_i z1;rw[if_pos z1];split at h
  ·exact⟨h.1,hr _ h.2⟩
  exact h.mono hr
 rename_i z1;rw[if_neg z1];exact h.mono hr
def Rb{W:Nat->Bool}{Q Q':AS->Prop}(hq:∀S,Q S->Q' S):∀(p:PlanM) (S:AS),Q6 P T nt k ops W Q p S->Q6 P T nt k ops W Q' p S
 | .done,S,h=>hq S h
 | .val i p,S,h=>q0e (λS=>Rb hq p S) h
 | .one i p,S,h=>Eo (λS=>Rb hq p S) h
 | .two i p j q,S,h=>⟨Eo (λS=>Rb hq p S) h.1,Eo (λS=>Rb hq q S) h.2⟩
 | .three i p j q m r,S,h=>⟨Eo (λS=>Rb hq p S) h.1,Eo (λS=>Rb hq q S) h.2.1,Eo (λS=>Rb hq r S) h.2.2⟩
 | .four i p j q m r n t,S,h=>⟨Eo (λS=>Rb hq p S) h.1,Eo (λS=>Rb hq q S) h.2.1,Eo (λS=>Rb hq r S) h.2.2.1,Eo (λS=>Rb hq t S) h.2.2.2⟩
def Gx(hT:TOk P T){wr:Bool}(hd:Ei nt o=true)(z1:Aw o.op=true->wr=true)(hv:Iv o.op=true)(h:match S3 T ops S o with|some S'=>R S'|none=>False):Wx P nt k wr ops o S R:=by
 cases hs:S3 T ops S o with
 |none=>rw[hs]at h;exact h.elim
 |some S'=>rw[hs]at h;exact Ol hT hs hd z1 hv h
end
attribute [simp] Q6 AV.nrm AV.nrm1
end
section
open Go.RowKit
section
variable {P:Program} [Env P] {T:TT} {nt k:Nat} {S:AS} {ops:Array Oper} {o:Oper} {R:AS->Prop}
def k0q(z:Array Value)(n p j:Nat)(hp:p<n)(hj:j<z.size):(madeCells z (n * z.size))[p * z.size+j]? =z[j]? :=by
 have z1:p * z.size+j<n * z.size:=by have:(p+1) * z.size<=n * z.size:=zW _ hp;rw[z_]at this;omega
 unfold madeCells;rw[Array.getElem?_map];simp only[Array.getElem?_range,z1];simp only[if_true,xH];rw[wm p,Nat.mul_add_mod,wa hj];simp[hj]
def It (hT:TOk P T) {wr:Bool} (hw:We ops S o=some true) (hd:Ei nt o=true) {t e:TypeId} {l c:Operand} (ho:o.op= .makeSlice t l c) {it ei:TI} (ht:look T t=some it) (zj:it.desc= .slice e) (he:look T e=some ei)
  (hz:ei.zero.cells.size=ei.size) {kl kc:IntKind} {n:Nat} (hl:rho S.sl l=some (.int kl n)) (hc:rho S.sl c=some (.int kc n)) (hb:ei.bytes * n<=281474976710656) (hn:n<=maxLen) (z:AV) (zd:z.cells=ei.zeros)
  (hR:R (({ S with hp:=S.hp++[.arr e ei.size (zG n z)] }:AS).putD o.dst (.sl S.hp.length ei.size 0 n))):Wx P nt k wr ops o S R:=λC a w K Q ze hK=>by
 unfold OpW;rw[if_pos (ze.wanted hw)];obtain⟨I,m,zk,z8,zl,hE⟩:=ze;have zf:=hT.und ht;rw[zj]at zf;obtain⟨i,hi,i1,i2,i3⟩:=hT.info he;have zm:=(Qw z8 hl).int_inv;have zn:=(Qw z8 hc).int_inv;have zo:(n:Int)<=9223372036854775807:=by unfold maxLen at hn;omega
 have zp:(i.bytes:Int) * (n:Int)<=281474976710656:=by
  have h:((i.bytes * n:Nat):Int)<=281474976710656:=by rw[i3];omega
  rwa [Int.natCast_mul]at h
 have z1:=run_make (P:=P) w t e i ei.zero zf hi i1 kl kc n n (by omega) (wj _) zp zo;simp only[xa]at z1;rw[i2,<-hz]at z1;obtain⟨cs,za⟩:∃cs,madeCells ei.zero.cells (n * ei.zero.cells.size)=cs:=⟨_,rfl⟩
 have zg:cs.size=n * ei.size:=by rw[<-za,<-hz];simp[madeCells]
 have zb:∀p j,p<n->j<ei.size->cs[p * ei.size+j]? =ei.zero.cells[j]? :=λp j hp hj=>by rw[<-za,<-hz];exact k0q _ _ _ _ hp (by omega)
 rw[za]at z1;have zc:(execOp a.eval o).run P w= .ok (.value (.slice (some ⟨w.heap.size,0,none⟩) n n)) (w.alloc (.cells cs e)):=by simp[execOp,ho,zm,zn,z1]
 have zh:Below w.heap.size w (w.alloc (.cells cs e)):=(Below.refl _ _).alloc (zR _) _;have zi:z.cells.length=ei.size:=by rw[zd,TI.zeros,xj,Array.length_toList,hz]
 obtain⟨g1,g2⟩:=zk.push zh (some w.heap.size) (λb e=>by injection e with e;subst e;simp) (.arr e ei.size (zG n z)) (λm' hf hm=> .inr ⟨w.heap.size,n,cs,rfl,heap_alloc_new w _,by simp,hn,zg,
  λy hy=>by rw[List.eq_of_mem_replicate hy];exact zi,λp y hp j v hv=>by
   rw[xp]at hp;split at hp
   ·rename_i zq;obtain rfl:=Option.some.inj hp;have hj:j<ei.size:=by rw[<-zi];exact(zD.1 hv).1
    rw[zd,TI.zeros,zY]at hv;obtain⟨u,hu,rfl⟩:=zM.1 hv;rw[Array.getElem?_toList]at hu;exact⟨u,by rw[zb p j zq hj];exact hu,Ug u⟩
   cases hp⟩)
 unfold wpA;rw[zc];refine hK _ _ _ hR (St.value z8 zl hE g1 g2 (by simp) (Qt hd) ?_) (λ_=>T7.of_below zh);have:=VR.sl (w:=w.alloc (.cells cs e)) (I:=I) (m:=upd m S.hp.length (some w.heap.size)) (n:=S.hp.length+1) S.hp.length ei.size 0 n n w.heap.size e (by omega) (Q9 _ _ _)
  (by have:=heap_alloc_new w (.cells cs e);simp only[World.shape?,this,yO];rw[zg]) (zR _) (by omega)
 simpa using this
end
end
section
open Go.RowKit
section
variable {P:Program} [Env P] {nt k:Nat} {Q:Exit->AS->Prop}
def Ji{c:Code}{sl:List (Nat×AV)}{H:List AObj}(i:Nat){xs:List AV}(hi:H[i]?=some (.vars xs))(hp:xs.all AV.pure=true)(h:AWP P nt k c Q ⟨sl,H.set i (.vars (xs.map AV.nrm))⟩):AWP P nt k c Q ⟨sl,H⟩:=λC a w hs=>by
 obtain⟨I,m,hw,z1,hk,hf⟩:=hs;have hlen:(H.set i (.vars (xs.map AV.nrm))).length=H.length:=by simp
 obtain⟨b,t,vs,hb,hh,z8,hr⟩:=hw.obj i _ hi;obtain⟨g1,g2⟩:=hw.set (w':=w) (o':= .vars (xs.map AV.nrm)) hi rfl hb (World.grownBy.refl _ _) (λ_ h=>h) (λm' zb=>⟨b,t,vs,rfl,hh,by simp[z8],λj v x hv hx=>by
  rw[zY]at hx;obtain⟨y,hy,rfl⟩:=zM.1 hx;exact .pure ((hr j v y hv hy).toPure (zU.1 hp y (zE hy))).nrm⟩)
 refine h C a w ⟨I,m,g1,⟨z1.1,z1.2.1,λt x hx=>?_⟩,by rw[hlen];exact hk,hf⟩;obtain⟨v,hv,za⟩:=z1.2.2 t x hx;exact⟨v,hv,by simpa using za⟩
def St.freeze1{C:Cx P}{a:Act}{w:World}{sl:List (Nat×AV)}{H:List AObj}(hs:St C nt k ⟨sl,H⟩ a w)(i:Nat){e c:Nat}{xs:List AV}(hi:H[i]?=some (.arr e c xs)):
  St C nt k ⟨sl.map λp=>(p.1,p.2.fz i c xs),H.set i .dead⟩ a w:=by
 obtain⟨I,m,hw,za,hk,hf⟩:=hs;have zb:Ext w w I (λb=>I b\/m i=some b):=⟨λ_ h=> .inl h,λ_ _=>rfl⟩
 have z8:Fut H.length w I m w (λb=>I b\/m i=some b) m:=⟨zb,λ_ _=>rfl,λ_ _ h=>h⟩
 have hlen:(H.set i .dead).length=H.length:=by simp
 have z1:∀(id:Nat) (o:AObj),(H.set i .dead)[id]?=some o->o.live=true->id≠i/\H[id]?=some o:=λid o ho hl=>by
  by_cases hid:id=i
  ·subst hid;rw[zL (zD.1 hi).1]at ho;cases ho;simp[AObj.live]at hl
  rw[zI (by omega)]at ho;exact⟨hid,ho⟩
 refine⟨λb=>I b\/m i=some b,m,⟨hw.below,λb hb=> .inl (hw.i0 b hb),λb hb=>?_,λid o ho=>?_,λid o b ho hl hm=>?_,λa b oa ob d ha hb la lb ma mb=>?_⟩,⟨za.1,za.2.1,λt x hx=>?_⟩,by rw[hlen];exact hk,hf.trans hk z8⟩
 ·rcases hb with hb|hb
  ·exact hw.iw b hb
  have:=hw.own i _ b hi rfl hb;exact⟨this.2.2,.inr this.1⟩
 ·rw[hlen];by_cases hid:id=i
  ·subst hid;rw[zL (zD.1 hi).1]at ho;cases ho;trivial
  rw[zI (by omega)]at ho;exact U4.mono (hw.obj id o ho) z8 (zR _) (λ_ _ _=>rfl)
 ·obtain⟨zd,zc⟩:=z1 id o ho hl;have h1:=hw.own id o b zc hl hm;refine⟨h1.1,λhc=>?_,h1.2.2⟩;rcases hc with hc|hc
  ·exact h1.2.1 hc
  exact zd (hw.inj id i o _ b zc hi hl rfl hm hc)
 ·obtain⟨_,ze⟩:=z1 a oa ha la;obtain⟨_,zf⟩:=z1 b ob hb lb;exact hw.inj a b oa ob d ze zf la lb ma mb
 rw[hlen];have:=Av hx;obtain⟨y,hy,rfl⟩:=this;obtain⟨v,hv,hr⟩:=za.2.2 t y hy;exact⟨v,hv,hr.fz hw hi⟩
def Ej{cd:Code}{sl:List (Nat×AV)}{H:List AObj}(i:Nat){e c:Nat}{xs:List AV}(hi:H[i]?=some (.arr e c xs))(h:AWP P nt k cd Q ⟨sl.map λp=>(p.1,p.2.fz i c xs),H.set i .dead⟩):AWP P nt k cd Q ⟨sl,H⟩:=
 λC a w hs=>h C a w (hs.freeze1 i hi)
def R1{wr:Bool}{ops:Array Oper}{o:Oper}{R:AS->Prop}{sl:List (Nat×AV)}{H:List AObj}(i:Nat){e c:Nat}{xs:List AV}(hi:H[i]?=some (.arr e c xs))(h:Wx P nt k wr ops o ⟨sl.map λp=>(p.1,p.2.fz i c xs),H.set i .dead⟩ R):Wx P nt k wr ops o ⟨sl,H⟩ R:=
 λC a w K Q hs=>h C a w K Q (hs.freeze1 i hi)
def St.freezeC{C:Cx P}{a:Act}{w:World}{sl:List (Nat×AV)}{H:List AObj}(hs:St C nt k ⟨sl,H⟩ a w)(i:Nat){e c:Nat}{xs:List AV}(hi:H[i]?=some (.arr e c xs))(t:Nat){cs:List AV}(ht:H[t]?=some (.vars cs)):
  St C nt k ⟨sl.map λp=>(p.1,p.2.fz i c xs),(H.set i .dead).set t (.vars (cs.map λx=>x.fz i c xs))⟩ a w:=by
 obtain⟨I,m,hw,za,hk,hf⟩:=hs;have zc:t≠i:=λh=>by rw[h,hi]at ht;cases ht
 have ze:t<H.length:=(zD.1 ht).1;have zb:Ext w w I (λb=>I b\/m i=some b):=⟨λ_ h=> .inl h,λ_ _=>rfl⟩
 have z8:Fut H.length w I m w (λb=>I b\/m i=some b) m:=⟨zb,λ_ _=>rfl,λ_ _ h=>h⟩
 have hlen:((H.set i .dead).set t (.vars (cs.map λx=>x.fz i c xs))).length=H.length:=by simp
 have z1:∀(id:Nat) (o:AObj),((H.set i .dead).set t (.vars (cs.map λx=>x.fz i c xs)))[id]?=some o->o.live=true->id≠i/\∃o',H[id]?=some o'/\o'.live=true:=λid o ho hl=>by
  by_cases hid:id=i
  ·subst hid;rw[zI zc,zL (zD.1 hi).1]at ho;cases ho;simp[AObj.live]at hl
  by_cases hit:id=t
  ·subst hit;exact⟨hid,_,ht,rfl⟩
  rw[zI (by omega),zI (by omega)]at ho;exact⟨hid,_,ho,hl⟩
 refine⟨λb=>I b\/m i=some b,m,⟨hw.below,λb hb=> .inl (hw.i0 b hb),λb hb=>?_,λid o ho=>?_,λid o b ho hl hm=>?_,λa b oa ob d ha hb la lb ma mb=>?_⟩,⟨za.1,za.2.1,λt x hx=>?_⟩,by rw[hlen];exact hk,hf.trans hk z8⟩
 ·rcases hb with hb|hb
  ·exact hw.iw b hb
  have:=hw.own i _ b hi rfl hb;exact⟨this.2.2,.inr this.1⟩
 ·rw[hlen];by_cases hid:id=i
  ·subst hid;rw[zI zc,zL (zD.1 hi).1]at ho;cases ho;trivial
  by_cases hit:id=t
  ·subst hit;rw[zL (by simpa using ze)]at ho;cases ho;exact(hw.obj id _ ht).fz hw hi
  rw[zI (by omega),zI (by omega)]at ho;exact U4.mono (hw.obj id o ho) z8 (zR _) (λ_ _ _=>rfl)
 ·obtain⟨zf,o',zd,hl'⟩:=z1 id o ho hl;have h1:=hw.own id o' b zd hl' hm;refine⟨h1.1,λhc=>?_,h1.2.2⟩;rcases hc with hc|hc
  ·exact h1.2.1 hc
  exact zf (hw.inj id i o' _ b zd hi hl' rfl hm hc)
 ·obtain⟨_,zg,zh,zi⟩:=z1 a oa ha la;obtain⟨_,zj,zk,zl⟩:=z1 b ob hb lb;exact hw.inj a b zg zj d zh zk zi zl ma mb
 rw[hlen];have:=Av hx;obtain⟨y,hy,rfl⟩:=this;obtain⟨v,hv,hr⟩:=za.2.2 t y hy;exact⟨v,hv,hr.fz hw hi⟩
def E5{cd:Code}{sl:List (Nat×AV)}{H:List AObj}(i:Nat){e c:Nat}{xs:List AV}(hi:H[i]?=some (.arr e c xs))(t:Nat){cs:List AV}(ht:H[t]?=some (.vars cs))(h:AWP P nt k cd Q ⟨sl.map λp=>(p.1,p.2.fz i c xs),(H.set i .dead).set t (.vars (cs.map λx=>x.fz i c xs))⟩):AWP P nt k cd Q ⟨sl,H⟩:=
 λC a w hs=>h C a w (hs.freezeC i hi t ht)
end
end
section
open Go.RowKit
def Zk(x:AV):x.nrm.cells.length=x.cells.length/\∀(j:Nat) (y':AV),x.nrm.cells[j]?=some y'->∃y,x.cells[j]?=some y/\∀(w:World) (I:Nat->Prop) (v:Value),PVR w I v y->PVR w I v y':=by
 cases x with
 |agg cs=>refine⟨by simp[AV.nrm,AV.cells],λj y' h=>?_⟩;simp only[AV.nrm,AV.cells,zY]at h;obtain⟨y,hy,rfl⟩:=zM.1 h;exact⟨y,hy,λw I v h=>h.nrm1⟩
 |nils=>
  refine⟨rfl,λj y' h=>?_⟩;cases j with
  |zero=>cases h;exact⟨.nils,rfl,λw I v h=>h.nrm1⟩
  |succ j=>cases h
 |fn f xs ys=>
  refine⟨rfl,λj y' h=>?_⟩;cases j with
  |zero=>cases h;exact⟨.fn f xs ys,rfl,λw I v h=>h.nrm⟩
  |succ j=>cases h
 |_=>exact⟨rfl,λj y' h=>⟨y',h,λw I v h=>h⟩⟩
def AV.nrmL:AV->AV
 | .list xs=> .list (xs.map AV.nrm)
 |x=>x
section
variable {P:Program} [Env P] {nt k:Nat} {Q:Exit->AS->Prop}
end
attribute [simp] AV.nrmL
end
section
open Go.RowKit
section
variable {P:Program} [Env P] {T:TT} {nt k:Nat} {S:AS} {ops:Array Oper} {o:Oper} {R:AS->Prop}
section
variable {W0 w w':World} {I0 I:Nat->Prop} {m:Nat->Option Nat} {H:List AObj}
def Uy(H:List AObj):AV->Option (List AV)
 | .list ys=>some ys
 | .sl id c lo len=>match H[id]? with
  |some (.arr _ c' xs)=>if c=c'/\lo+len<=xs.length then some ((xs.drop lo).take len)else none
  |some (.va _ c' xs)=>if c=c'/\lo+len<=xs.length then some ((xs.drop lo).take len)else none
  |_=>none
 | .nils=>some []
 |_=>none
def Ca(hw:WS W0 I0 w I m H){v:Value}{x:AV}{ys:List AV}(hv:VR w I m H.length v x)(h:Uy H x=some ys):
  ∃(ao:Option Addr) (cap:Nat) (u:Nat->Nat->Value),v= .slice ao ys.length cap/\
   (0<ys.length->∃ad,ao=some ad/\∃c,(∀y∈ys,y.cells.length=c)/\∀i j,i<ys.length->j<c->w.cell? (ad.add (i * c+j))=some (u i j))/\
   (∀(i:Nat) (x:AV),ys[i]?=some x->∀(j:Nat) (y:AV),x.cells[j]?=some y->VR w I m H.length (u i j) y):=by
 cases x with
 |list zs=>simp only[Uy,Option.some.injEq]at h;subst h;obtain⟨a,cap,c,u,rfl,_,_,hc,ha,hu⟩:=hv.list_inv.list_inv;exact⟨a,cap,u,rfl,λh0=>by obtain⟨ad,e,_,hcell⟩:=ha h0;exact⟨ad,e,c,hc,hcell⟩,λi x hx j y hy=> .pure (hu i x hx j y hy)⟩
 |nils=>simp only[Uy,Option.some.injEq]at h;subst h;obtain rfl:=hv.nils_inv;exact⟨none,0,λ_ _=>undef,rfl,λh0=>by simp at h0,λi x hx=>by simp at hx⟩
 |sl id c lo len=>
  simp only[Uy]at h;split at h
  ·rename_i e c' xs ho;split at h
   ·rename_i hc;obtain⟨rfl,hl⟩:=hc;simp only[Option.some.injEq]at h;subst h;have hlen:((xs.drop lo).take len).length=len:=by simp;omega
    rcases hv.sl_inv with⟨b,cap,t,hb,hn,hs,hl',hmax,rfl⟩|⟨hb,hn,rfl,rfl,rfl⟩|⟨ad,hn,hlo,rfl,rfl⟩
    ·rcases hw.obj id _ ho with⟨e1,rfl⟩|⟨b',z1,vs,z8,hh,q1,q2,q3,q4,hr⟩
     ·rw[hb]at e1;cases e1
     obtain rfl:b=b':=by rw[hb]at z8;exact Option.some.inj z8
     refine⟨_,cap,λi j=>vs.getD ((lo+i) * c+j) undef,by rw[hlen],λ_=>⟨_,rfl,c,λx hx=>q4 x (xX (xz hx)),λi j hi hj=>?_⟩,λi x hx j z hz=>?_⟩
     ·rw[hlen]at hi;rw[Addr.add_lit,cell_of_row w b _ vs e (0,0) hh];simp only[z_];have za:(lo+i) * c+j<vs.size:=by rw[q3];have:(lo+i+1) * c<=z1 * c:=zW c (by omega);rw[z_ (lo+i)]at this;omega
      rw[z_]at za;rw[show lo * c+(i * c+j)=lo * c+i * c+j by omega];simp[za]
     rw[yE]at hx;split at hx
     ·rw[yQ]at hx;obtain⟨v,hv,hp⟩:=hr (lo+i) x hx j z hz;simp only[xB,hv,xE];exact .pure hp
     cases hx
    ·exact⟨none,0,λ_ _=>undef,by rw[hlen],λh0=>by simp at h0,λi x hx=>by simp at hx⟩
    exact⟨some ad,0,λ_ _=>undef,by rw[hlen],λh0=>by simp at h0,λi x hx=>by simp at hx⟩
   cases h
  ·rename_i e c' xs ho;split at h
   ·rename_i hc;obtain⟨rfl,hl⟩:=hc;simp only[Option.some.injEq]at h;subst h;have hlen:((xs.drop lo).take len).length=len:=by simp;omega
    rcases hv.sl_inv with⟨b,cap,t,hb,hn,hs,hl',hmax,rfl⟩|⟨hb,hn,rfl,rfl,rfl⟩|⟨ad,hn,hlo,rfl,rfl⟩
    ·rcases hw.obj id _ ho with⟨e1,rfl⟩|⟨b',z1,vs,z8,hh,q1,q2,q3,q4,hr⟩
     ·rw[hb]at e1;cases e1
     obtain rfl:b=b':=by rw[hb]at z8;exact Option.some.inj z8
     refine⟨_,cap,λi j=>vs.getD ((lo+i) * c+j) undef,by rw[hlen],λ_=>⟨_,rfl,c,λx hx=>q4 x (xX (xz hx)),λi j hi hj=>?_⟩,λi x hx j z hz=>?_⟩
     ·rw[hlen]at hi;rw[Addr.add_lit,cell_of_row w b _ vs e (0,0) hh];simp only[z_];have za:(lo+i) * c+j<vs.size:=by rw[q3];have:(lo+i+1) * c<=z1 * c:=zW c (by omega);rw[z_ (lo+i)]at this;omega
      rw[z_]at za;rw[show lo * c+(i * c+j)=lo * c+i * c+j by omega];simp[za]
     rw[yE]at hx;split at hx
     ·rw[yQ]at hx;obtain⟨v,hv,hp⟩:=hr (lo+i) x hx j z hz;simp only[xB,hv,xE];exact hp
     cases hx
    ·exact⟨none,0,λ_ _=>undef,by rw[hlen],λh0=>by simp at h0,λi x hx=>by simp at hx⟩
    exact⟨some ad,0,λ_ _=>undef,by rw[hlen],λh0=>by simp at h0,λi x hx=>by simp at hx⟩
   cases h
  cases h
 |_=>simp[Uy]at h
end
def Et(S:AS)(e:TypeId)(c:Nat):AV->Option (List AV×List AObj)
 | .nils=>some ([],S.hp)
 | .sl id c' 0 len=>match S.hp[id]? with
  |some (.va e' c'' xs)=>if c'=c/\c''=c/\e'=e/\len=xs.length then some (xs,S.hp.set id .dead)else none
  |_=>none
 |_=>none
def Jo (hT:TOk P T) (hw:We ops S o=some true) {s x:Operand} {t e:TypeId} (ho:o.op= .call ⟨.builtin .append,#[s,x],#[t,t]⟩) {it ei:TI} (ht:look T t=some it) (y8:it.desc= .slice e) (he:look T e=some ei)
  (hz:ei.zero.cells.size=ei.size) (y9:0<ei.size) {sv xv:AV} (hs:rho S.sl s=some sv) (hx:rho S.sl x=some xv) {xs ys:List AV} {H1:List AObj} (hb:Et S e ei.size sv=some (xs,H1)) (hy:Uy S.hp xv=some ys)
  (zx:∀y∈ys,y.cells.length=ei.size/\y.cells.all AV.leaf=true) (hbound:(xs.length+ys.length) * ei.bytes<=140737488355328) (hlen:xs.length+ys.length<=9223372036854775807) (hd:Ei nt o=true)
  (hR:R (({ S with hp:=H1++[.va e ei.size (xs++ys)] }:AS).putD o.dst (.sl S.hp.length ei.size 0 (xs.length+ys.length)))):Wx P nt k true ops o S R:=λC a w K Q zy hK=>by
 unfold OpW;rw[if_pos (zy.wanted hw)];obtain⟨I,m,ze,zt,hk,hE⟩:=zy;obtain⟨ao,cap,u,zn,hcell,zz⟩:=Ca ze (Qw zt hx) hy;have y0:=Qw zt hs;obtain⟨ti,zo,tz,ts,tb⟩:=hT.info he;have zk:=hT.und ht;rw[y8]at zk;have zl:H1.length=S.hp.length:=by
  unfold Et at hb;split at hb
  ·simp only[Option.some.injEq,Prod.mk.injEq]at hb;rw[<-hb.2]
  ·split at hb
   ·split at hb
    ·simp only[Option.some.injEq,Prod.mk.injEq]at hb;rw[<-hb.2];simp
    cases hb
   cases hb
  cases hb
 -- what the run comes to decides all
 have fin:∀(v:Value) (w':World) (m':Nat->Option Nat),(Builtin.append_ #[t,t] o.type #[a.eval s,a.eval x]).run P w= .ok v w'->WS C.W0 C.I0 w' I m' (H1++[.va e ei.size (xs++ys)])->Fut S.hp.length w I m w' I m'->
   VR w' I m' (S.hp.length+1) v (.sl S.hp.length ei.size 0 (xs.length+ys.length))->wpA P o a w K Q:=λv w' m' z8 g1 g2 g3=>by
  unfold wpA;have:(execOp a.eval o).run P w= .ok (.value v) w':=by simp[execOp,ho,resolve,invoke,builtin,z8]
  rw[this];exact hK _ _ w' hR (St.value zt hk hE g1 g2 (by simp[zl]) (Qt hd) (by simpa[zl]using g3)) (λe=>by cases e)
 -- nothing is appended
 have zero:ys=[]->∀(b0:Option Addr) (n0 c0:Nat),n0<=c0->a.eval s= .slice b0 n0 c0->(Builtin.append_ #[t,t] o.type #[a.eval s,a.eval x]).run P w= .ok (.slice b0 n0 c0) w:=λzb b0 n0 c0 hle zp=>by rw[zp,zn,zb];cases ao<;>cases b0<;>simp[Builtin.append_,run_underlying zk,sizeOf,typeInfo,zo,Builtin.lenOf,Builtin.firstCells,hle,loadCells,loadCellsFrom,storeCells]
 -- a new row
 have newrow:∀(za:Nat) (cs:Array Value),xs.length+ys.length<=za->za<=maxLen->cs.size=za * ei.size->
   (∀(i:Nat) (z:AV),(xs++ys)[i]?=some z->z.cells.length=ei.size/\∀(j:Nat) (y:AV),z.cells[j]?=some y->∃v,cs[i * ei.size+j]?=some v/\VR w I m S.hp.length v y)->
   (Builtin.append_ #[t,t] o.type #[a.eval s,a.eval x]).run P w= .ok (.slice (some ⟨w.heap.size,0,none⟩) (xs.length+ys.length) za) (w.drew.alloc (.cells cs e))->WS C.W0 C.I0 w I m H1->wpA P o a w K Q:=λza cs h1 h2 h3 h4 z8 hw1=>by
  have ya:Below w.heap.size w (w.drew.alloc (.cells cs e)):=(Below.refl _ _).drew.alloc (zR _) _;obtain⟨g1,g2⟩:=hw1.push ya (some w.heap.size) (λb e=>by injection e with e;subst e;simp) (.va e ei.size (xs++ys)) (λm' hf hm=> .inr ⟨w.heap.size,za,cs,rfl,heap_alloc_new w.drew _,by simpa using h1,h2,h3,
   λz zf=>by obtain⟨i,hi⟩:=yX.1 zf;exact(h4 i z hi).1,λi z hi j y hy=>by obtain⟨v,q1,q2⟩:=(h4 i z hi).2 j y hy;exact⟨v,q1,q2.mono (by rw[<-zl];exact hf) (by omega)⟩⟩)
  rw[zl]at g1 g2;refine fin _ _ _ z8 g1 g2 ?_;have:=VR.sl (w:=w.drew.alloc (.cells cs e)) (I:=I) (m:=upd m S.hp.length (some w.heap.size)) (n:=S.hp.length+1) S.hp.length ei.size 0 (xs.length+ys.length) za w.heap.size e (by omega) (Q9 _ _ _)
   (by have:=heap_alloc_new w.drew (.cells cs e);simp only[World.size_drew]at this;simp only[World.shape?,this,h3,yO]) h1 (by omega)
  simpa using this
 have zi:∀y∈ys,y.cells.length=ei.size:=λy hy=>(zx y hy).1;have news:0<ys.length->∃ad,ao=some ad/\∀(q:Nat) (v:Value),(Qj u ys.length ei.size)[q]?=some v->w.cell? (ad.add q)=some v:=λh0=>by
  obtain⟨ad,e1,c,h1,h2⟩:=hcell h0;have hc:c=ei.size:=by rw[<-h1 _ (yw h0),zi _ (yw h0)]
  subst hc;refine⟨ad,e1,λq v hq=>?_⟩;obtain⟨_,_,q1,q2,q3,rfl⟩:=Eh _ _ _ _ _ hq;have:=h2 _ _ q1 q2;rw[<-q3]at this;exact this
 have one:∀v∈Qj u ys.length ei.size,v.oneCell'=true:=λv hv=>by obtain⟨q,hq⟩:=yX.1 hv;obtain⟨_,_,q1,q2,q3,rfl⟩:=Eh _ _ _ _ _ hq;have yb:ys[q / ei.size]?=some ys[q / ei.size]:=zH q1;have yj:=zi _ (yw q1);have y5:(ys[q / ei.size]).cells[q % ei.size]?=some ((ys[q / ei.size]).cells[q % ei.size]'(by omega)):=zH (by omega);exact(zz _ _ yb _ _ y5).oneCell (zU.1 (zx _ (yw q1)).2 _ (zE y5))
 have yrel:∀(i:Nat) (z:AV),ys[i]?=some z->∀(j:Nat) (y:AV),z.cells[j]?=some y->(Qj u ys.length ei.size)[i * ei.size+j]?=some (u i j)/\VR w I m S.hp.length (u i j) y:=λi z zf j y hy=>by have hi:=(zD.1 zf).1;have hj:=(zD.1 hy).1;rw[zi z (zE zf)]at hj;exact⟨R4 _ _ _ _ _ hi hj,zz i z zf j y hy⟩
 have capw:∀zq,xs.length+ys.length<=grownCap w (xs.length+ys.length) zq e/\grownCap w (xs.length+ys.length) zq e<=maxLen:=λzq=>
  ⟨grownCap_ge _ _ _ _,grownCap_le_maxLen w _ zq e (by unfold maxLen;omega)⟩
 have fromNone:a.eval s= .slice none 0 0->xs=[]->WS C.W0 C.I0 w I m H1->wpA P o a w K Q:=λzp yc hw1=>by
  subst yc;rcases xn ys.length with h0|h0
  ·have zb:=yS h0;have z8:=zero zb none 0 0 (zR _) zp;obtain⟨g1,g2⟩:=hw1.push (Below.refl _ _) none (λb e=>by cases e) (.va e ei.size ([]++ys)) (λm' _ _=> .inl ⟨rfl,by simp[zb]⟩);rw[zl]at g1 g2;refine fin _ _ _ z8 g1 g2 ?_;rw[h0];exact .slnone _ _ (by omega) (Q9 _ _ _)
  obtain⟨ad,rfl,zc⟩:=news h0;have z8:=run_append_nil (P:=P) w t o.type e ti ei.zero zk zo tz ad ys.length cap (Qj u ys.length ei.size) (by rw[Qo,ts]) zc h0 (by simp at hlen;omega) (by rw[tb];simp at hbound;omega);obtain⟨c1,c2⟩:=capw 0;simp only[wt,yO]at c1 c2;refine newrow (grownCap w ys.length 0 e) _ (by simpa using c1) c2 ?_ ?_ (by rw[zp,zn];simpa using z8) hw1
  ·have key:∀cs:Array Value,cs.size=ei.size->((Qj u ys.length ei.size).toArray++Builtin.zeroCells cs (grownCap w ys.length 0 e - ys.length)).size=grownCap w ys.length 0 e * ei.size:=λcs yd=>by
    simp only[x8,yA,Qo,size_zeroCells,yd,<-z_]
    congr 1;omega
   exact key _ hz
  intro i z hi;simp only[wb]at hi;refine⟨zi z (zE hi),λj y hy=>?_⟩;obtain⟨q1,q2⟩:=yrel i z hi j y hy;exact⟨_,by rw[yB (by simpa using(zD.1 q1).1)];simpa using q1,q2⟩
 unfold Et at hb;split at hb
 ·simp only[Option.some.injEq,Prod.mk.injEq]at hb;obtain⟨rfl,rfl⟩:=hb;exact fromNone y0.nils_inv rfl ze
 ·rename_i id c' len;split at hb
  ·rename_i e' c'' z1 zr;split at hb
   ·rename_i hc;obtain⟨rfl,rfl,rfl,rfl⟩:=hc;simp only[Option.some.injEq,Prod.mk.injEq]at hb;obtain⟨rfl,rfl⟩:=hb;have zd:=ze.kill id;rcases y0.sl_inv with⟨b,cp,t',hb,hn,zu,hl',hmax,zj⟩|⟨hb,hn,_,yk,zj⟩|⟨ad,hn,hlo,_,_⟩
    ·rcases ze.obj id _ zr with⟨e1,_⟩|⟨b',ye,vs,zm,hh,q1,q2,q3,q4,hr⟩
     ·rw[hb]at e1;cases e1
     obtain rfl:b=b':=by rw[hb]at zm;exact Option.some.inj zm
     have yf:cp=ye:=by
      have:w.shape? b=some (e',vs.size):=by simp[World.shape?,hh]
      rw[this]at zu;simp only[Option.some.injEq,Prod.mk.injEq,yO,q3]at zu;exact(xi y9 zu.2).symm
     subst yf;simp only[vg]at zj;have xrel:∀(i:Nat) (z:AV),z1[i]?=some z->∀j,j<ei.size->i * ei.size+j<z1.length * ei.size:=λi z hi j hj=>by have:(i+1) * ei.size<=z1.length * ei.size:=zW _ (zD.1 hi).1;rw[z_]at this;omega
     have yg:z1.length * ei.size<=vs.size:=by rw[q3];exact zW _ q1
     have y6:∀(w':World),w'.shape? b=some (e',cp * ei.size)->z1.length+ys.length<=cp->VR w' I (upd m S.hp.length (some b)) (S.hp.length+1) (.slice (some ⟨b,0,none⟩) (z1.length+ys.length) cp) (.sl S.hp.length ei.size 0 (z1.length+ys.length)):=λw' yh hle=>by have:=VR.sl (w:=w') (I:=I) (m:=upd m S.hp.length (some b)) (n:=S.hp.length+1) S.hp.length ei.size 0 (z1.length+ys.length) cp b e' (by omega) (Q9 _ _ _) (by simpa using yh) hle (by omega);simpa using this
     rcases xn ys.length with h0|h0
     ·have zb:=yS h0;have z8:=zero zb _ _ _ hl' zj;obtain⟨g1,g2⟩:=ze.adopt (w':=w) (o':= .va e' ei.size (z1++ys)) zr rfl hb (World.grownBy.refl _ _) (λ_ h=>h) (λm' hf=> .inr ⟨b,cp,vs,rfl,hh,by simp[zb,q1],q2,q3,by simpa[zb]using q4,λi z hi j y hy=>by obtain⟨v,p1,p2⟩:=hr i z (by simpa[zb]using hi) j y hy;exact⟨v,p1,p2.mono hf (vl _)⟩⟩);refine fin _ _ _ z8 g1 g2 ?_;have:=y6 w (by simp[World.shape?,hh,q3]) (by omega);rw[h0]at this |-;exact this
     obtain⟨ad,rfl,zc⟩:=news h0;by_cases hroom:z1.length+ys.length<=cp
     ·have zg:z1.length * ti.size+(Qj u ys.length ei.size).length<=vs.size:=by rw[Qo,ts,q3,<-z_];exact zW _ hroom
      have z8:=run_append_room (P:=P) w t o.type e' ti zk zo b z1.length cp vs hh ad ys.length cap (Qj u ys.length ei.size) (by rw[Qo,ts]) zc one hroom zg;rw[ts]at z8 zg;have zv:(vs.toList.take (z1.length * ei.size)++Qj u ys.length ei.size++vs.toList.drop (z1.length * ei.size+(Qj u ys.length ei.size).length)).toArray=spl vs (z1.length * ei.size) (Qj u ys.length ei.size).toArray:=by simp[spl]
      rw[zv]at z8;have y7:z1.length * ei.size+(Qj u ys.length ei.size).toArray.size<=vs.size:=by simpa using zg
      have zh:=Th vs (z1.length * ei.size) (Qj u ys.length ei.size).toArray y7;obtain⟨g1,g2⟩:=ze.adopt (o':= .va e' ei.size (z1++ys)) zr rfl hb (W7 w b (spl vs (z1.length * ei.size) (Qj u ys.length ei.size).toArray)) (E3 hh zh)
       (λm' hf=> .inr ⟨b,cp,_,rfl,setRow_heap w b vs _ e' _ hh,by simpa using hroom,q2,by rw[zh,q3],λz zf=>by
         rcases xg.1 zf with h1|h1
         ·exact q4 z h1
         ·exact zi z h1,λi z hi j y hy=>by
         rw[I7 _ _ _ _ y7];by_cases hix:i<z1.length
         ·rw[zJ hix]at hi;have hj:j<ei.size:=by have:=(zD.1 hy).1;rw[q4 z (zE hi)]at this;exact this
          have:=xrel i z hi j hj;rw[if_neg (by omega)];obtain⟨v,p1,p2⟩:=hr i z hi j y hy;exact⟨v,p1,p2.mono hf (vl _)⟩
         rw[zF (by omega)]at hi;obtain⟨p1,p2⟩:=yrel _ z hi j y hy;have p3:=(zD.1 p1).1;have p4:i * ei.size=z1.length * ei.size+(i - z1.length) * ei.size:=by rw[<-z_];congr 1;omega
         rw[if_pos (by simp only[yA];omega)];exact⟨_,by rw[show i * ei.size+j - z1.length * ei.size=(i - z1.length) * ei.size+j by omega];simpa using p1,p2.mono hf (vl _)⟩⟩)
      refine fin _ _ _ (by rw[zj,zn];exact z8) g1 g2 (y6 _ ?_ hroom);simp[World.shape?,setRow_heap w b vs _ e' _ hh,zh,q3]
     have holds:∀(j:Nat) (v:Value),(vs.toList.take (z1.length * ei.size))[j]?=some v->w.cell? ((⟨b,0,none⟩:Addr).add j)=some v:=λj v hj=>by
      rw[Addr.add_lit,yO,cell_of_row w b j vs e' (0,0) hh];rw[yE]at hj;split at hj
      ·simpa using hj
      cases hj
     have z8:=run_append_grow (P:=P) w t o.type e' ti ei.zero zk zo tz ⟨b,0,none⟩ z1.length cp (vs.toList.take (z1.length * ei.size)) (by rw[ts];simp;omega) holds ad ys.length cap (Qj u ys.length ei.size) (by rw[Qo,ts]) zc (by omega) (by omega)
      (growslice_fits (by omega) (by rw[tb];exact hbound))
     obtain⟨c1,c2⟩:=capw cp;refine newrow _ _ c1 c2 ?_ ?_ (by rw[zj,zn];exact z8) zd
     ·have:(vs.toList.take (z1.length * ei.size)).length=z1.length * ei.size:=by simp;omega
      simp only[x8,yA,Qo,size_zeroCells,hz,this,<-z_]
      congr 1;omega
     intro i z hi;have zw:(vs.toList.take (z1.length * ei.size)).length=z1.length * ei.size:=by simp;omega
     by_cases hix:i<z1.length
     ·rw[zJ hix]at hi;refine⟨q4 z (zE hi),λj y hy=>?_⟩;have hj:j<ei.size:=by have:=(zD.1 hy).1;rw[q4 z (zE hi)]at this;exact this
      have yi:=xrel i z hi j hj;obtain⟨v,p1,p2⟩:=hr i z hi j y hy;refine⟨v,?_,p2⟩;rw[yB (by simp;omega),yB (by simp;omega),wh,yE,if_pos yi];simpa using p1
     rw[zF (by omega)]at hi;refine⟨zi z (zE hi),λj y hy=>?_⟩;obtain⟨p1,p2⟩:=yrel _ z hi j y hy;have p3:=(zD.1 p1).1;have p4:i * ei.size=z1.length * ei.size+(i - z1.length) * ei.size:=by rw[<-z_];congr 1;omega
     refine⟨_,?_,p2⟩;rw[yB (by simp only[x8,yA,zw];omega),xQ (by simp only[yA,zw];omega)];simp only[yA,zw];rw[show i * ei.size+j - z1.length * ei.size=(i - z1.length) * ei.size+j by omega];simpa using p1
    ·rcases ze.obj id _ zr with⟨_,e1⟩|⟨b',_,_,zm,_⟩
     ·exact fromNone zj e1 zd
     rw[hb]at zm;cases zm
    omega
   cases hb
  cases hb
 cases hb
end
end
section
open Go.RowKit
section
variable {P:Program} [Env P] {T:TT} {nt k:Nat} {S:AS} {ops:Array Oper} {o:Oper} {R:AS->Prop}
def Wo (hT:TOk P T) (hw:We ops S o=some true) {s x:Operand} {t e:TypeId} (ho:o.op= .call ⟨.builtin .append,#[s,x],#[t,t]⟩) {it ei:TI} (ht:look T t=some it) (z1:it.desc= .slice e) (he:look T e=some ei)
  (hz:ei.zero.cells.size=ei.size) (z8:0<ei.size) (za:0<ei.bytes) {sv xv:AV} (hs:rho S.sl s=some sv) (hx:rho S.sl x=some xv) (hd:Ei nt o=true)
  (hR:match Et S e ei.size sv,Uy S.hp xv with
   |some (xs,H1),some ys=>Eg ei xs ys/\R (({ S with hp:=H1++[.va e ei.size (xs++ys)] }:AS).putD o.dst (.sl S.hp.length ei.size 0 (xs.length+ys.length)))
   |_,_=>False):Wx P nt k true ops o S R:=by
 cases hb:Et S e ei.size sv with
 |none=>rw[hb]at hR;exact hR.elim
 |some p=>
  obtain⟨xs,H1⟩:=p;cases hy:Uy S.hp xv with
  |none=>rw[hb,hy]at hR;exact hR.elim
  |some ys=>rw[hb,hy]at hR;obtain⟨⟨h1,h2⟩,h3⟩:=hR;refine Jo hT hw ho ht z1 he hz z8 hs hx hb hy h1 h2 ?_ hd h3;have:=Nat.le_mul_of_pos_right (xs.length+ys.length) za;omega
def WS.swap{W0 w:World}{I0 I:Nat->Prop}{m:Nat->Option Nat}{H:List AObj}(h:WS W0 I0 w I m H){i:Nat}{o o':AObj}(hi:H[i]?=some o)(hl:o.live=true)(hO:U4 w I m H.length (m i) o'):WS W0 I0 w I m (H.set i o'):=by
 have z8:∀(k:Nat) (p:AObj),(H.set i o')[k]?=some p->(k=i/\p=o')\/(k≠i/\H[k]?=some p):=λk p hp=>by
  by_cases hk:k=i
  ·subst hk;rw[zL (zD.1 hi).1]at hp;exact .inl ⟨rfl,(Option.some.inj hp).symm⟩
  rw[zI (by omega)]at hp;exact .inr ⟨hk,hp⟩
 have z1:∀(k:Nat) (p:AObj),(H.set i o')[k]?=some p->p.live=true->∃q,H[k]?=some q/\q.live=true:=λk p hp lp=>by
  rcases z8 k p hp with⟨rfl,rfl⟩|⟨_,h2⟩
  ·exact⟨o,hi,hl⟩
  exact⟨p,h2,lp⟩
 refine⟨h.below,h.i0,h.iw,λk p hp=>?_,λk p c hp lp mc=>?_,λa b oa ob c ha hb la lb ma mb=>?_⟩
 ·rw[xS];rcases z8 k p hp with⟨rfl,rfl⟩|⟨_,h2⟩
  ·exact hO
  exact h.obj k p h2
 ·obtain⟨q,hq,lq⟩:=z1 k p hp lp;exact h.own k q c hq lq mc
 obtain⟨qa,h1,h2⟩:=z1 a oa ha la;obtain⟨qb,h3,h4⟩:=z1 b ob hb lb;exact h.inj a b qa qb c h1 h3 h2 h4 ma mb
variable {Q:Exit->AS->Prop}
def St.swap{C:Cx P}{a:Act}{w:World}{sl:List (Nat×AV)}{H:List AObj}(hs:St C nt k ⟨sl,H⟩ a w){i:Nat}{o o':AObj}(hi:H[i]?=some o)(hl:o.live=true)(hO:∀I m,U4 w I m H.length (m i) o->U4 w I m H.length (m i) o'):
  St C nt k ⟨sl,H.set i o'⟩ a w:=by
 obtain⟨I,m,hw,z1,hk,hf⟩:=hs;refine⟨I,m,hw.swap hi hl (hO I m (hw.obj i o hi)),⟨z1.1,z1.2.1,λt x hx=>?_⟩,by simpa using hk,hf⟩;obtain⟨v,hv,hr⟩:=z1.2.2 t x hx;exact⟨v,hv,by simpa using hr⟩
def U4.toVa{w:World}{I:Nat->Prop}{m:Nat->Option Nat}{n:Nat}{b? :Option Nat}{e c:Nat}{xs:List AV}(h:U4 w I m n b? (.arr e c xs)):U4 w I m n b? (.va e c xs):=by
 rcases h with h|⟨b,cap,vs,e1,hh,h1,h2,h3,h4,hr⟩
 ·exact .inl h
 exact .inr ⟨b,cap,vs,e1,hh,h1,h2,h3,h4,λi x hx j y hy=>by obtain⟨v,hv,hp⟩:=hr i x hx j y hy;exact⟨v,hv,.pure hp⟩⟩
def U4.toArr{w:World}{I:Nat->Prop}{m:Nat->Option Nat}{n:Nat}{b? :Option Nat}{e c:Nat}{xs:List AV}(hp:xs.all (λx=>x.cells.all AV.pure)=true)(h:U4 w I m n b? (.va e c xs)):U4 w I m n b? (.arr e c xs):=by
 simp only[zU]at hp;rcases h with h|⟨b,cap,vs,e1,hh,h1,h2,h3,h4,hr⟩
 ·exact .inl h
 exact .inr ⟨b,cap,vs,e1,hh,h1,h2,h3,h4,λi x hx j y hy=>by obtain⟨v,hv,hq⟩:=hr i x hx j y hy;exact⟨v,hv,hq.toPure (hp x (zE hx) y (zE hy))⟩⟩
def Ja{cd:Code}{sl:List (Nat×AV)}{H:List AObj}(i:Nat){e c:Nat}{xs:List AV}(hi:H[i]?=some (.arr e c xs))(h:AWP P nt k cd Q ⟨sl,H.set i (.va e c xs)⟩):AWP P nt k cd Q ⟨sl,H⟩:=
 λC a w hs=>h C a w (hs.swap hi rfl (λ_ _=>U4.toVa))
def Iz{cd:Code}{sl:List (Nat×AV)}{H:List AObj}(i:Nat){e c:Nat}{xs:List AV}(hi:H[i]?=some (.va e c xs))(hp:xs.all (λx=>x.cells.all AV.pure)=true)(h:AWP P nt k cd Q ⟨sl,H.set i (.arr e c xs)⟩):AWP P nt k cd Q ⟨sl,H⟩:=
 λC a w hs=>h C a w (hs.swap hi rfl (λ_ _=>U4.toArr hp))
def St.freezeO{C:Cx P}{a:Act}{w:World}{sl:List (Nat×AV)}{H:List AObj}(hs:St C nt k ⟨sl,H⟩ a w)(i:Nat){e c:Nat}{xs:List AV}(hi:H[i]?=some (.arr e c xs))(t:Nat){o0:AObj}(ht:H[t]?=some o0)(zc:t≠i)(hlo:o0.live=true):
  St C nt k ⟨sl.map λp=>(p.1,p.2.fz i c xs),(H.set i .dead).set t (o0.fz i c xs)⟩ a w:=by
 obtain⟨I,m,hw,za,hk,hf⟩:=hs;have ze:t<H.length:=(zD.1 ht).1;have zb:Ext w w I (λb=>I b\/m i=some b):=⟨λ_ h=> .inl h,λ_ _=>rfl⟩
 have z8:Fut H.length w I m w (λb=>I b\/m i=some b) m:=⟨zb,λ_ _=>rfl,λ_ _ h=>h⟩
 have hlen:((H.set i .dead).set t (o0.fz i c xs)).length=H.length:=by simp
 have z1:∀(id:Nat) (o:AObj),((H.set i .dead).set t (o0.fz i c xs))[id]?=some o->o.live=true->id≠i/\∃o',H[id]?=some o'/\o'.live=true:=λid o ho hl=>by
  by_cases hid:id=i
  ·subst hid;rw[zI zc,zL (zD.1 hi).1]at ho;cases ho;simp[AObj.live]at hl
  by_cases hit:id=t
  ·subst hit;exact⟨hid,_,ht,hlo⟩
  rw[zI (by omega),zI (by omega)]at ho;exact⟨hid,_,ho,hl⟩
 refine⟨λb=>I b\/m i=some b,m,⟨hw.below,λb hb=> .inl (hw.i0 b hb),λb hb=>?_,λid o ho=>?_,λid o b ho hl hm=>?_,λa b oa ob d ha hb la lb ma mb=>?_⟩,⟨za.1,za.2.1,λt x hx=>?_⟩,by rw[hlen];exact hk,hf.trans hk z8⟩
 ·rcases hb with hb|hb
  ·exact hw.iw b hb
  have:=hw.own i _ b hi rfl hb;exact⟨this.2.2,.inr this.1⟩
 ·rw[hlen];by_cases hid:id=i
  ·subst hid;rw[zI zc,zL (zD.1 hi).1]at ho;cases ho;trivial
  by_cases hit:id=t
  ·subst hit;rw[zL (by simpa using ze)]at ho;cases ho;exact(hw.obj id _ ht).fz hw hi
  rw[zI (by omega),zI (by omega)]at ho;exact U4.mono (hw.obj id o ho) z8 (zR _) (λ_ _ _=>rfl)
 ·obtain⟨zf,o',zd,hl'⟩:=z1 id o ho hl;have h1:=hw.own id o' b zd hl' hm;refine⟨h1.1,λhc=>?_,h1.2.2⟩;rcases hc with hc|hc
  ·exact h1.2.1 hc
  exact zf (hw.inj id i o' _ b zd hi hl' rfl hm hc)
 ·obtain⟨_,zg,zh,zi⟩:=z1 a oa ha la;obtain⟨_,zj,zk,zl⟩:=z1 b ob hb lb;exact hw.inj a b zg zj d zh zk zi zl ma mb
 rw[hlen];have:=Av hx;obtain⟨y,hy,rfl⟩:=this;obtain⟨v,hv,hr⟩:=za.2.2 t y hy;exact⟨v,hv,hr.fz hw hi⟩
def O6{cd:Code}{sl:List (Nat×AV)}{H:List AObj}(i:Nat){e c:Nat}{xs:List AV}(hi:H[i]?=some (.arr e c xs))(t:Nat){o0:AObj}(ht:H[t]?=some o0)(z1:t≠i)(hlo:o0.live=true)(h:AWP P nt k cd Q ⟨sl.map λp=>(p.1,p.2.fz i c xs),(H.set i .dead).set t (o0.fz i c xs)⟩):AWP P nt k cd Q ⟨sl,H⟩:=
 λC a w hs=>h C a w (hs.freezeO i hi t ht z1 hlo)
end
end
section
open Go.RowKit
def U4.nrmArr{w:World}{I:Nat->Prop}{m:Nat->Option Nat}{n:Nat}{b? :Option Nat}{e c:Nat}{xs:List AV}(h:U4 w I m n b? (.arr e c xs)):U4 w I m n b? (.arr e c (xs.map AV.nrm)):=by
 rcases h with⟨h,rfl⟩|⟨b,cap,vs,e1,hh,h1,h2,h3,h4,hr⟩
 ·exact .inl ⟨h,rfl⟩
 refine .inr ⟨b,cap,vs,e1,hh,by simpa using h1,h2,h3,λx hx=>?_,λi x hx j y hy=>?_⟩
 ·obtain⟨x',z1,rfl⟩:=xd.1 hx;rw[(Zk x').1];exact h4 x' z1
 rw[zY]at hx;obtain⟨x',z1,rfl⟩:=zM.1 hx;obtain⟨y',k1,k2⟩:=(Zk x').2 j y hy;obtain⟨v,hv,hp⟩:=hr i x' z1 j y' k1;exact⟨v,hv,k2 _ _ _ hp⟩
section
variable {P:Program} [Env P] {T:TT} {nt k:Nat} {S:AS} {ops:Array Oper} {o:Oper} {R:AS->Prop} {Q:Exit->AS->Prop}
def Yn{cd:Code}{sl:List (Nat×AV)}{H:List AObj}(i:Nat){e c:Nat}{xs:List AV}(hi:H[i]?=some (.arr e c xs))(h:AWP P nt k cd Q ⟨sl,H.set i (.arr e c (xs.map AV.nrm))⟩):AWP P nt k cd Q ⟨sl,H⟩:=
 λC a w hs=>h C a w (hs.swap hi rfl (λ_ _=>U4.nrmArr))
end
end
section
section
variable {P:Program} [Env P] {T:TT} {nt k:Nat} {S:AS}
def Wa{cd:Code}{Q:Exit->AS->Prop}{sl:List (Nat×AV)}{H:List AObj}(h:∀Z,Z=H->AWP P nt k cd Q ⟨sl,Z⟩):AWP P nt k cd Q ⟨sl,H⟩:=h H rfl
def y0e{wr:Bool}{ops:Array Oper}{o:Oper}{R:AS->Prop}{sl:List (Nat×AV)}{H:List AObj}(h:∀Z,Z=H->Wx P nt k wr ops o ⟨sl,Z⟩ R):Wx P nt k wr ops o ⟨sl,H⟩ R:=h H rfl
end
end
section
open Go.RowKit
section
variable {P:Program} [Env P] {T:TT} {nt k:Nat} {S:AS} {ops:Array Oper} {o:Oper} {R:AS->Prop}
def S0 (w:World) (t ty e:TypeId) (i:TypeInfo) (ht:P.underlying t=some (.slice e)) (hi:P.info? e=some i)
  (g off sLen sCap:Nat) (cur:Array Value) (hg:w.heap[g]?=some (.cells cur e (0,0)))
  (a:Addr) (m c:Nat) (news:List Value) (hl:news.length=m * i.size) (z1:∀j u,news[j]?=some u->w.cell? (a.add j)=some u) (h1:∀u∈news,u.oneCell'=true)
  (z8:sLen+m<=sCap) (za:off+sLen * i.size+news.length<=cur.size):
  (Builtin.append_ #[t,t] ty #[.slice (some ⟨g,off,none⟩) sLen sCap,.slice (some a) m c]).run P w=
   .ok (.slice (some ⟨g,off,none⟩) (sLen+m) sCap) (w.setRow g (cur.toList.take (off+sLen * i.size)++news++cur.toList.drop (off+sLen * i.size+news.length)).toArray):=by
 have hf:=run_firstCells_some (P:=P) w i.size m a m c news hl z1;have zb:=run_storeCells_at P g (off+sLen * i.size) e news 0 cur w hg (by simpa using za) h1;simp only[wg]at zb;simp[Builtin.append_,run_underlying ht,sizeOf,typeInfo,hi,Builtin.lenOf,z8,hf,Addr.add_lit,zb]
def Jl (hT:TOk P T) (hw:We ops S o=some true) {s x:Operand} {t e:TypeId} (ho:o.op= .call ⟨.builtin .append,#[s,x],#[t,t]⟩) {it ei:TI} (ht:look T t=some it) (y9:it.desc= .slice e) (he:look T e=some ei)
  (hz:ei.zero.cells.size=ei.size) (ya:0<ei.size) {id off len:Nat} (hs:rho S.sl s=some (.sl id ei.size off len)) {xv:AV} (hx:rho S.sl x=some xv) {xs ys:List AV} (zl:S.hp[id]?=some (.arr e ei.size xs)) (yb:0<off) (zm:off+len=xs.length) (zb:0<ys.length) (hy:Y4 S.hp xv=some ys)
  (zv:∀y∈ys,y.cells.length=ei.size/\y.cells.all AV.leaf=true) (hbound:(len+ys.length) * ei.bytes<=140737488355328) (hlen:xs.length+ys.length<=9223372036854775807) (hd:Ei nt o=true)
  (yc:R (({ S with hp:=S.hp.set id (.arr e ei.size (xs++ys)) }:AS).putD o.dst (.sl id ei.size off (len+ys.length))))
  (yd:R (({ S with hp:=S.hp.set id .dead++[.arr e ei.size (xs.drop off++ys)] }:AS).putD o.dst (.sl S.hp.length ei.size 0 (len+ys.length)))):Wx P nt k true ops o S R:=λC a w K Q zw hK=>by
 unfold OpW;rw[if_pos (zw.wanted hw)];obtain⟨I,m,zk,zn,hk,hE⟩:=zw;obtain⟨ao,cap,u,zx,hcell,zy⟩:=Uw zk (Qw zn hx) hy;have ye:=Qw zn hs;obtain⟨ti,zz,tz,ts,tb⟩:=hT.info he;have zo:=hT.und ht;rw[y9]at zo;have fin:∀(S':AS) (v:Value) (w':World) (m':Nat->Option Nat) (r:AV),S'.sl=S.sl->S.hp.length<=S'.hp.length->R (S'.putD o.dst r)->(Builtin.append_ #[t,t] o.type #[a.eval s,a.eval x]).run P w= .ok v w'->WS C.W0 C.I0 w' I m' S'.hp->Fut S.hp.length w I m w' I m'->
   VR w' I m' S'.hp.length v r->wpA P o a w K Q:=λS' v w' m' r zf hle hR z1 g1 g2 g3=>by
  unfold wpA;have:(execOp a.eval o).run P w= .ok (.value v) w':=by simp[execOp,ho,resolve,invoke,builtin,z1]
  rw[this];obtain⟨sl',yn⟩:=S';simp only at zf hle g1 g3;subst zf;exact hK _ _ w' hR (St.value zn hk hE g1 g2 hle (Qt hd) g3) (λe=>by cases e)
 have zg:∀y∈ys,y.cells.length=ei.size:=λy hy=>(zv y hy).1;obtain⟨ad,rfl,zh⟩:∃ad,ao=some ad/\∀(q:Nat) (v:Value),(Qj u ys.length ei.size)[q]?=some v->w.cell? (ad.add q)=some v:=by
  obtain⟨ad,e1,c,h1,h2⟩:=hcell zb;have hc:c=ei.size:=by rw[<-h1 _ (yw zb),zg _ (yw zb)]
  subst hc;refine⟨ad,e1,λq v hq=>?_⟩;obtain⟨_,_,q1,q2,q3,rfl⟩:=Eh _ _ _ _ _ hq;have:=h2 _ _ q1 q2;rw[<-q3]at this;exact this
 have one:∀v∈Qj u ys.length ei.size,v.oneCell'=true:=λv hv=>by obtain⟨q,hq⟩:=yX.1 hv;obtain⟨_,_,q1,q2,q3,rfl⟩:=Eh _ _ _ _ _ hq;have yf:ys[q / ei.size]?=some ys[q / ei.size]:=zH q1;have yo:=zg _ (yw q1);have y0:(ys[q / ei.size]).cells[q % ei.size]?=some ((ys[q / ei.size]).cells[q % ei.size]'(by omega)):=zH (by omega);exact(VR.pure (m:=m) (n:=0) (zy _ _ yf _ _ y0)).oneCell (zU.1 (zv _ (yw q1)).2 _ (zE y0))
 have yrel:∀(i:Nat) (z:AV),ys[i]?=some z->∀(j:Nat) (y:AV),z.cells[j]?=some y->(Qj u ys.length ei.size)[i * ei.size+j]?=some (u i j)/\PVR w I (u i j) y:=λi z zc j y hy=>by have hi:=(zD.1 zc).1;have hj:=(zD.1 hy).1;rw[zg z (zE zc)]at hj;exact⟨R4 _ _ _ _ _ hi hj,zy i z zc j y hy⟩
 have zi:=zk.kill id;have yg:id<S.hp.length:=(zD.1 zl).1;have y5:(xs.drop off).length=len:=by rw[List.length_drop];omega
 -- a new row
 have newrow:∀(z8:Nat) (cs:Array Value),len+ys.length<=z8->z8<=maxLen->cs.size=z8 * ei.size->
   (∀(i:Nat) (z:AV),(xs.drop off++ys)[i]?=some z->z.cells.length=ei.size/\∀(j:Nat) (y:AV),z.cells[j]?=some y->∃v,cs[i * ei.size+j]?=some v/\PVR w I v y)->
   (Builtin.append_ #[t,t] o.type #[a.eval s,a.eval x]).run P w= .ok (.slice (some ⟨w.heap.size,0,none⟩) (len+ys.length) z8) (w.drew.alloc (.cells cs e))->wpA P o a w K Q:=λz8 cs h1 h2 h3 h4 z1=>by
  have yh:Below w.heap.size w (w.drew.alloc (.cells cs e)):=(Below.refl _ _).drew.alloc (zR _) _;obtain⟨g1,g2⟩:=zi.push yh (some w.heap.size) (λb e=>by injection e with e;subst e;simp) (.arr e ei.size (xs.drop off++ys)) (λm' hf hm=> .inr ⟨w.heap.size,z8,cs,rfl,heap_alloc_new w.drew _,by rw[zK,y5];exact h1,h2,h3,
   λz zc=>by obtain⟨i,hi⟩:=yX.1 zc;exact(h4 i z hi).1,λi z hi j y hy=>by obtain⟨v,q1,q2⟩:=(h4 i z hi).2 j y hy;exact⟨v,q1,q2.mono hf.ext⟩⟩)
  rw[xS]at g1 g2;refine fin { S with hp:=S.hp.set id .dead++[.arr e ei.size (xs.drop off++ys)] } _ _ _ _ rfl (by simp) yd z1 g1 g2 ?_;have:=VR.sl (w:=w.drew.alloc (.cells cs e)) (I:=I) (m:=upd m S.hp.length (some w.heap.size)) (n:=S.hp.length+1) S.hp.length ei.size 0 (len+ys.length) z8 w.heap.size e (by omega) (Q9 _ _ _)
   (by have:=heap_alloc_new w.drew (.cells cs e);simp only[World.size_drew]at this;simp only[World.shape?,this,h3,yO]) h1 (by omega)
  simpa using this
 have grow:∀(b:Addr) (cp:Nat) (olds:List Value),olds.length=len * ei.size->(∀j v,olds[j]?=some v->w.cell? (b.add j)=some v)->a.eval s= .slice (some b) len cp->cp<len+ys.length->
   (∀(i:Nat) (z:AV),(xs.drop off)[i]?=some z->z.cells.length=ei.size/\∀(j:Nat) (y:AV),z.cells[j]?=some y->∃v,olds[i * ei.size+j]?=some v/\PVR w I v y)->wpA P o a w K Q:=λb cp olds zj holds zd y6 zp=>by
  have z1:=run_append_grow (P:=P) w t o.type e ti ei.zero zo zz tz b len cp olds (by rw[ts];exact zj) holds ad ys.length cap (Qj u ys.length ei.size) (by rw[Qo,ts]) zh y6 (by omega)
   (growslice_fits y6 (by rw[tb];exact hbound))
  have c1:=grownCap_ge w (len+ys.length) cp e;have c2:=grownCap_le_maxLen w (len+ys.length) cp e (by unfold maxLen;omega);refine newrow _ _ c1 c2 ?_ ?_ (by rw[zd,zx];exact z1)
  ·simp only[x8,yA,Qo,size_zeroCells,hz,zj,<-z_]
   congr 1;omega
  intro i z hi;by_cases hix:i<(xs.drop off).length
  ·rw[zJ hix]at hi;obtain⟨r1,r2⟩:=zp i z hi;refine⟨r1,λj y hy=>?_⟩;obtain⟨v,p1,p2⟩:=r2 j y hy;have zq:=(zD.1 p1).1;refine⟨v,?_,p2⟩;rw[yB (by simp;omega),yB (by simpa using zq),wh];exact p1
  rw[zF (by omega)]at hi;refine⟨zg z (zE hi),λj y hy=>?_⟩;obtain⟨p1,p2⟩:=yrel _ z hi j y hy;have p3:=(zD.1 p1).1;rw[y5]at p1 p2 p3 hix;have p4:i * ei.size=len * ei.size+(i - len) * ei.size:=by rw[<-z_];congr 1;omega
  refine⟨_,?_,p2⟩;rw[yB (by simp only[x8,yA,zj];omega),xQ (by simp only[yA,zj];omega)];simp only[yA,zj];rw[show i * ei.size+j - len * ei.size=(i - len) * ei.size+j by omega];simpa using p1
 rcases ye.sl_inv with⟨b,cp,t',hb,hn,zr,hl',hmax,zd⟩|⟨hb,hn,hlo,zt,zd⟩|⟨yi,hn,hlo,zt,zd⟩
 ·rcases zk.obj id _ zl with⟨e1,_⟩|⟨b',yj,vs,y7,hh,q1,q2,q3,q4,hr⟩
  ·rw[hb]at e1;cases e1
  obtain rfl:b=b':=by rw[hb]at y7;exact Option.some.inj y7
  have yk:off+cp=yj:=by
   have:w.shape? b=some (e,vs.size):=by simp[World.shape?,hh]
   rw[this]at zr;simp only[Option.some.injEq,Prod.mk.injEq,q3]at zr;exact(xi ya zr.2).symm
  subst yk;have xrel:∀(i:Nat) (z:AV),xs[i]?=some z->∀j,j<ei.size->i * ei.size+j<xs.length * ei.size:=λi z hi j hj=>by have:(i+1) * ei.size<=xs.length * ei.size:=zW _ (zD.1 hi).1;rw[z_]at this;omega
  have yl:xs.length * ei.size=off * ei.size+len * ei.size:=by rw[<-zm,z_]
  by_cases hroom:len+ys.length<=cp
  ·have za:off * ei.size+len * ti.size+(Qj u ys.length ei.size).length<=vs.size:=by rw[Qo,ts,q3,<-z_,<-z_];exact zW _ (by omega)
   have z1:=S0 (P:=P) w t o.type e ti zo zz b (off * ei.size) len cp vs hh ad ys.length cap (Qj u ys.length ei.size) (by rw[Qo,ts]) zh one hroom za;rw[ts]at z1 za;rw[<-yl]at z1 za;have zu:(vs.toList.take (xs.length * ei.size)++Qj u ys.length ei.size++vs.toList.drop (xs.length * ei.size+(Qj u ys.length ei.size).length)).toArray=spl vs (xs.length * ei.size) (Qj u ys.length ei.size).toArray:=by simp[spl]
   rw[zu]at z1;have y8:xs.length * ei.size+(Qj u ys.length ei.size).toArray.size<=vs.size:=by simpa using za
   have ze:=Th vs (xs.length * ei.size) (Qj u ys.length ei.size).toArray y8;obtain⟨g1,g2⟩:=zk.set (o':= .arr e ei.size (xs++ys)) zl rfl hb (W7 w b (spl vs (xs.length * ei.size) (Qj u ys.length ei.size).toArray)) (E3 hh ze)
    (λm' hf=> .inr ⟨b,off+cp,_,rfl,setRow_heap w b vs _ e _ hh,by rw[zK];omega,q2,by rw[ze,q3],λz zc=>by
      rcases xg.1 zc with h1|h1
      ·exact q4 z h1
      ·exact zg z h1,λi z hi j y hy=>by
      rw[I7 _ _ _ _ y8];by_cases hix:i<xs.length
      ·rw[zJ hix]at hi;have hj:j<ei.size:=by have:=(zD.1 hy).1;rw[q4 z (zE hi)]at this;exact this
       have:=xrel i z hi j hj;rw[if_neg (by omega)];obtain⟨v,p1,p2⟩:=hr i z hi j y hy;exact⟨v,p1,p2.mono hf.ext⟩
      rw[zF (by omega)]at hi;obtain⟨p1,p2⟩:=yrel _ z hi j y hy;have p3:=(zD.1 p1).1;have p4:i * ei.size=xs.length * ei.size+(i - xs.length) * ei.size:=by rw[<-z_];congr 1;omega
      rw[if_pos (by simp only[yA];omega)];exact⟨_,by rw[show i * ei.size+j - xs.length * ei.size=(i - xs.length) * ei.size+j by omega];simpa using p1,p2.mono hf.ext⟩⟩)
   refine fin { S with hp:=S.hp.set id (.arr e ei.size (xs++ys)) } _ _ _ _ rfl (by simp) yc (by rw[zd,zx];exact z1) g1 g2 ?_;refine .sl id ei.size off (len+ys.length) cp b e (by simpa using hn) hb ?_ hroom hmax;simp[World.shape?,setRow_heap w b vs _ e _ hh,ze,q3]
  refine grow ⟨b,off * ei.size,none⟩ cp ((vs.toList.drop (off * ei.size)).take (len * ei.size)) ?_ (λj v hj=>?_) zd (by omega) λi z hi=>?_
  ·have:xs.length * ei.size<=vs.size:=by rw[q3];exact zW _ q1
   simp;omega
  ·rw[Addr.add_lit,cell_of_row w b _ vs e (0,0) hh];rw[yE]at hj;split at hj
   ·rw[yQ]at hj;simpa using hj
   cases hj
  rw[yQ]at hi;refine⟨q4 z (zE hi),λj y hy=>?_⟩;have hj:j<ei.size:=by have:=(zD.1 hy).1;rw[q4 z (zE hi)]at this;exact this
  have zq:=xrel _ z hi j hj;rw[z_]at zq;obtain⟨v,p1,p2⟩:=hr (off+i) z hi j y hy;refine⟨v,?_,p2⟩;rw[yE,if_pos (by omega),yQ];rw[z_,xK]at p1;simpa using p1
 ·omega
 have ym:xs.drop off=[]:=yS (by omega);refine grow yi 0 [] (by rw[zt];simp) (λj v hj=>by simp at hj) (by rw[zd,zt]) (by omega) λi z hi=>?_;rw[ym]at hi;simp at hi
end
end
section
open Go.Sort
def PVR.of_val{w:World}{I:Nat->Prop}{u:Value}{x:AV}(hx:x.val=some u):PVR w I u x:=by
 cases x<;>simp[AV.val]at hx<;>subst hx
 ·exact .bool _
 ·exact .int _ _
 exact .str _
structure RowOf (k:Nat) (xs:List AV) (F:Array Value):Prop where
 size:F.size=xs.length * k
 width:∀x∈xs,x.cells.length=k
 cell:∀(i:Nat) (x:AV),xs[i]?=some x->∀(j:Nat) (y:AV),x.cells[j]?=some y->y.val=some F[i * k+j]!
section
variable {W0:World} {I0:Nat->Prop} {w:World} {I:Nat->Prop} {m:Nat->Option Nat} {H:List AObj} {p b:Nat} {e:TypeId} {k:Nat} {xs:List AV} {F:Array Value}
def d0n(z8:WS W0 I0 w I m H)(ho:H[p]?=some (.arr e k xs))(hm:m p=some b)(hF:RowOf k xs F):Holds id w b 0 F/\b<w.heap.size:=by
 obtain⟨_,_,hb⟩:=z8.own p _ b ho rfl hm;refine⟨λj hj=>?_,hb⟩;rcases z8.obj p _ ho with⟨e1,_⟩|⟨b',cap,vs,za,hh,q1,q2,q3,q4,hr⟩
 ·rw[hm]at e1;cases e1
 obtain rfl:b=b':=by rw[hm]at za;exact Option.some.inj za
 have hk:0<k:=by
  rcases xn k with h|h
  ·rw[hF.size,h]at hj;simp at hj
  exact h
 have zb:j<xs.length * k:=by rw[<-hF.size];exact hj
 have hi:j / k<xs.length:=Nat.div_lt_of_lt_mul (by rwa [wm]at zb);have hc:=hF.width _ (yw hi);have z1:j % k<(xs[j / k]).cells.length:=by rw[hc];exact uw _ hk
 have zc:j / k * k+j % k=j:=by rw[wm];exact Nat.div_add_mod _ _
 obtain⟨v,hv,hp⟩:=hr (j / k) _ (zH hi) (j % k) _ (zH z1);have:=hp.val (hF.cell _ _ (zH hi) _ _ (zH z1));rw[zc]at hv this;subst this;simp[World.cell?,World.frozen?,hh,hv]
def g0b(zb:WS W0 I0 w I m H)(ho:H[p]?=some (.arr e k xs))(hm:m p=some b)(hF:RowOf k xs F){z1:List AV}{F':Array Value}(hl:z1.length=xs.length)(za:RowOf k z1 F')(n:Nat)(os:Array Obj):
  WS W0 I0 (grow (putRow id (Sort.ahead w n) b 0 F') os) I m (H.set p (.arr e k z1))/\Fut H.length w I m (grow (putRow id (Sort.ahead w n) b 0 F') os) I m:=by
 obtain⟨_,_,hb⟩:=zb.own p _ b ho rfl hm;rcases zb.obj p _ ho with⟨e1,_⟩|⟨b',cap,vs,zd,hh,q1,q2,q3,q4,hr⟩
 ·rw[hm]at e1;cases e1
 obtain rfl:b=b':=by rw[hm]at zd;exact Option.some.inj zd
 have z8:∀c,c<w.heap.size->(grow (putRow id (Sort.ahead w n) b 0 F') os).heap[c]? =if b=c then(w.heap[c]?).map (onCells (putCells id 0 F'))else w.heap[c]? :=by intro c hc;simp only[grow,putRow,mapBlock,Sort.ahead];rw[yB (by simpa using hc),Array.getElem?_modify]
 have ze:(grow (putRow id (Sort.ahead w n) b 0 F') os).heap[b]?=some (.cells (putCells id 0 F' vs) e (0,0)):=by rw[z8 b hb,if_pos rfl,hh];rfl
 have hg:w.grownBy (grow (putRow id (Sort.ahead w n) b 0 F') os) (some b):=⟨rfl,rfl,rfl,by simp[grow,putRow,mapBlock,Sort.ahead],λc hc zf=>by
  rw[z8 c hc,if_neg (λh=>zf (by rw[h]))]⟩
 refine zb.set (o':= .arr e k z1) ho rfl hm hg (λs hs=>?_) (λm' hf=> .inr ⟨b,cap,putCells id 0 F' vs,rfl,ze,by omega,q2,by simp[putCells,q3],za.width,λi x hx j y hy=>?_⟩)
 ·simp only[World.shape?,hh]at hs;simp only[World.shape?,ze];simpa[putCells]using hs
 have hi:i<z1.length:=(zD.1 hx).1;have hj:j<k:=by have:=za.width x (zE hx);rw[<-this];exact(zD.1 hy).1
 have zg:i * k+j<z1.length * k:=by have:=zW k (show i+1<=z1.length from hi);rw[z_,Nat.one_mul]at this;omega
 have zc:i * k+j<vs.size:=by rw[q3];have:=zW k (show z1.length<=cap by omega);omega
 refine⟨F'[i * k+j]!,?_,PVR.of_val (za.cell i x hx j y hy)⟩;have:=za.size;simp only[putCells,Array.getElem?_mapIdx,Array.getElem?_eq_getElem zc,xH];rw[if_pos (by omega)];rfl
def V6(v:Value)(us:List Value): #[v]++us.toArray=⟨v::us⟩:=by simp
def z1d {P:Program} [Env P] {f:FuncId} {rest:List AV} (hc:Tm P f) {len:Nat} (zd:xs.length=len) (ho:H[p]?=some (.arr e k xs)) (hF:RowOf k xs F)
  (us:List Value) (hu:∀(w:World) (I:Nat->Prop) (m:Nat->Option Nat) (vs:List Value),vs.length=rest.length->(∀(i:Nat) (v:Value) (x:AV),vs[i]?=some v->rest[i]?=some x->VR w I m H.length v x)->vs=us)
  (Rx:List AV->Prop)
  (h:∀(b cap:Nat) (w:World),Holds id w b 0 F->b<w.heap.size->len<=cap->Calls P f (#[.slice (some ⟨b,0,none⟩) len cap]++us.toArray) w λen w'=>en= .returned (.tuple #[])/\∃(z1:List AV) (F':Array Value) (n:Nat) (os:Array Obj),Rx z1/\z1.length=xs.length/\RowOf k z1 F'/\w'=grow (putRow id (Sort.ahead w n) b 0 F') os)
  (h0:xs=[]->Rx []/\∀(w:World),Calls P f (#[.slice none 0 0]++us.toArray) w λen w'=>en= .returned (.tuple #[])/\w'=w):
  FC P f (.sl p k 0 len::rest) H (λr H'=>r= .tup []/\∃z1,Rx z1/\H'=H.set p (.arr e k z1)):=by
 refine⟨hc,λW0 I0 w I m vals hE z8 zb hv=>?_⟩;rcases vals with⟨vals⟩
 cases vals with
 |nil=>simp at zb
 |cons v vs=>
  have ze:vs=us:=hu w I m vs (by simpa using zb) λi v x a b=>hv (i+1) v x (by simpa using a) (by simpa using b);subst ze;have zf:=hv 0 v _ rfl rfl;have tupR:∀(w:World) (I:Nat->Prop) (m:Nat->Option Nat) (n:Nat),VR w I m n (.tuple #[]) (.tup []):=λw I m n=> .tup _ _ rfl (λi v x a=>by simp at a);rcases zf.sl_inv with⟨b,cap,t,hb,hn,zi,hle,hmax,za⟩|⟨hb,hn,_,zg,za⟩|⟨_,_,hlo,_,_⟩
  ·subst za;obtain⟨g1,g2⟩:=d0n z8 ho hb hF;have:=h b cap w g1 g2 hle;simp only[vg];refine Calls.mono (by rw[V6]at this;exact this) ?_;rintro en w' ⟨rfl,z1,F',n,os,hx,hl,zh,rfl⟩;obtain⟨k1,k2⟩:=g0b z8 ho hb hF hl zh n os;exact⟨_,_,_,I,m,⟨rfl,z1,hx,rfl⟩,rfl,k1,by simp,k2,tupR _ _ _ _⟩
  ·subst za;have zc:xs=[]:=by cases xs with|nil=>rfl|cons=>simp at zd;omega
   obtain⟨r0,r1⟩:=h0 zc;subst zg;refine Calls.mono (by have:=r1 w;rw[V6]at this;exact this) ?_;rintro en w' ⟨rfl,rfl⟩;refine⟨_,_,H,I,m,⟨rfl,[],r0,?_⟩,rfl,z8,zR _,.refl _ _ _ _,tupR _ _ _ _⟩;rw[<-zc];exact(xW λi=>by
    by_cases hi:i=p
    ·subst hi;rw[ho,zL (zD.1 ho).1]
    rw[zI (λh=>hi h.symm)])
  omega
end
end
section
open Go.Sort
section
variable {W0:World} {I0:Nat->Prop} {w:World} {I:Nat->Prop} {m:Nat->Option Nat} {H:List AObj} {p b:Nat} {e:TypeId} {k:Nat} {xs:List AV} {F:Array Value}
def u1m(zs:List Int):RowOf 1 (zs.map (AV.int .i64)) (zs.map (Value.int .i64)).toArray where
 size:=by simp
 width x hx:=by obtain⟨y,_,rfl⟩:=xd.1 hx;rfl
 cell i x hx j y hy:=by
  rw[zY]at hx;obtain⟨z,hz,rfl⟩:=zM.1 hx;obtain⟨hi,rfl⟩:=zD.1 hz;have hj:j=0:=by have:=(zD.1 hy).1;simp[AV.cells]at this;exact this
  subst hj;simp[AV.cells]at hy;subst hy;rw[Nat.mul_one,wg,getElem!_pos _ i (by simpa using hi)];simp[AV.val]
def w0k{w:World}{b:Nat}{zs:List Int}(h:Holds id w b 0 (zs.map (Value.int .i64)).toArray):Holds (Value.int .i64) w b 0 zs.toArray:=λj hj=>by
 have z1:j<zs.length:=by simpa using hj
 have:=h j (by simpa using z1);rw[getElem!_pos _ j (by simpa using z1)]at this;rw[getElem!_pos _ j (by simpa using z1)];simpa using this
def Bv(w:World)(b:Nat)(zs:List Int):putRow (Value.int .i64) w b 0 zs.toArray=putRow id w b 0 (zs.map (Value.int .i64)).toArray:=by
 unfold putRow;refine mapBlock_congr _ _ _ _ λc e fr _=>?_;unfold putCells;refine Array.ext (by simp) λi h1 h2=>?_;simp only[Array.getElem_mapIdx,yA,xj,id];split
 ·rename_i hh;have hi:i - 0<zs.length:=by omega
  rw[getElem!_pos _ (i - 0) (by simpa using hi),getElem!_pos _ (i - 0) (by simpa using hi)];simp
 rfl
end
end
section
open Go.Proofs
abbrev D2_:TI:={ desc:= .int .i64,zero:=(.int .i64 0),size:=1,bytes:=8 }
abbrev D3_:TI:={ desc:= .int .i64,zero:=(.int .i64 0),size:=1,bytes:=8 }
abbrev D4_:TI:={ desc:= .bool,zero:=(.bool false),size:=1,bytes:=1 }
abbrev D5_:TI:={ desc:= .int .u8,zero:=(.int .u8 0),size:=1,bytes:=1 }
abbrev D9_:TI:={ desc:= .string,zero:=(.string ⟨#[]⟩),size:=1,bytes:=16 }
abbrev z19:TI:={ desc:= .slice 5,zero:=(.slice none 0 0),size:=1,bytes:=24 }
abbrev y1q:TI:={ desc:= .slice 3,zero:=(.slice none 0 0),size:=1,bytes:=24 }
abbrev y1k:TI:={ desc:= .pointer 41,zero:=(.pointer none),size:=1,bytes:=8 }
abbrev y1f:TI:={ desc:= .slice 93,zero:=(.slice none 0 0),size:=1,bytes:=24 }
abbrev z1z:TI:={ desc:= .struct #[{ name:= "Next",type:=3,offset:=0,embedded:=false,tag:= "",pkgPath:= "",byteOffset:=0 },{ name:= "Attempts",type:=30,offset:=1,embedded:=false,tag:= "",pkgPath:= "",byteOffset:=8 },{ name:= "Durable",type:=3,offset:=2,embedded:=false,tag:= "",pkgPath:= "",byteOffset:=32 }],zero:=(.agg #[(.int .i64 0),(.slice none 0 0),(.int .i64 0)]),size:=3,bytes:=40 }
abbrev y1v:TI:={ desc:= .slice 78,zero:=(.slice none 0 0),size:=1,bytes:=24 }
abbrev y1b:TI:={ desc:= .slice 134,zero:=(.slice none 0 0),size:=1,bytes:=24 }
abbrev y1r:TI:={ desc:= .struct #[{ name:= "Epoch",type:=3,offset:=0,embedded:=false,tag:= "",pkgPath:= "",byteOffset:=0 },{ name:= "Committed",type:=33,offset:=1,embedded:=false,tag:= "",pkgPath:= "",byteOffset:=8 },{ name:= "Pending",type:=34,offset:=2,embedded:=false,tag:= "",pkgPath:= "",byteOffset:=32 }],zero:=(.agg #[(.int .i64 0),(.slice none 0 0),(.slice none 0 0)]),size:=3,bytes:=56 }
abbrev z1w:TI:={ desc:= .slice 155,zero:=(.slice none 0 0),size:=1,bytes:=24 }
abbrev y1h:TI:={ desc:= .struct #[{ name:= "Files",type:=37,offset:=0,embedded:=false,tag:= "",pkgPath:= "",byteOffset:=0 },{ name:= "Space",type:=3,offset:=1,embedded:=false,tag:= "",pkgPath:= "",byteOffset:=24 }],zero:=(.agg #[(.slice none 0 0),(.int .i64 0)]),size:=2,bytes:=32 }
abbrev y1l:TI:={ desc:= .struct #[{ name:= "next",type:=3,offset:=0,embedded:=false,tag:= "",pkgPath:= "tidegate/tidegatetop",byteOffset:=0 },{ name:= "coordinator",type:=32,offset:=1,embedded:=false,tag:= "",pkgPath:= "tidegate/tidegatetop",byteOffset:=8 },{ name:= "sink",type:=36,offset:=4,embedded:=false,tag:= "",pkgPath:= "tidegate/tidegatetop",byteOffset:=48 },{ name:= "disk",type:=39,offset:=7,embedded:=false,tag:= "",pkgPath:= "tidegate/tidegatetop",byteOffset:=104 },{ name:= "epoch",type:=3,offset:=9,embedded:=false,tag:= "",pkgPath:= "tidegate/tidegatetop",byteOffset:=136 },{ name:= "lost",type:=4,offset:=10,embedded:=false,tag:= "",pkgPath:= "tidegate/tidegatetop",byteOffset:=144 }],zero:=(.agg #[(.int .i64 0),(.int .i64 0),(.slice none 0 0),(.int .i64 0),(.int .i64 0),(.slice none 0 0),(.slice none 0 0),(.slice none 0 0),(.int .i64 0),(.int .i64 0),(.bool false)]),size:=11,bytes:=152 }
abbrev y1c:TI:={ desc:= .int .i64,zero:=(.int .i64 0),size:=1,bytes:=8 }
abbrev y1p:TI:={ desc:= .slice 258,zero:=(.slice none 0 0),size:=1,bytes:=24 }
abbrev z1x:TI:={ desc:= .struct #[{ name:= "Next",type:=3,offset:=0,embedded:=false,tag:= "",pkgPath:= "",byteOffset:=0 },{ name:= "Beyond",type:=23,offset:=1,embedded:=false,tag:= "",pkgPath:= "",byteOffset:=8 },{ name:= "Points",type:=48,offset:=2,embedded:=false,tag:= "",pkgPath:= "",byteOffset:=32 },{ name:= "Mark",type:=3,offset:=3,embedded:=false,tag:= "",pkgPath:= "",byteOffset:=56 }],zero:=(.agg #[(.int .i64 0),(.slice none 0 0),(.slice none 0 0),(.int .i64 0)]),size:=4,bytes:=64 }
abbrev z14:TI:={ desc:= .struct #[{ name:= "Source",type:=3,offset:=0,embedded:=false,tag:= "",pkgPath:= "",byteOffset:=0 },{ name:= "Offset",type:=3,offset:=1,embedded:=false,tag:= "",pkgPath:= "",byteOffset:=8 },{ name:= "Tracker",type:=50,offset:=2,embedded:=false,tag:= "",pkgPath:= "",byteOffset:=16 }],zero:=(.agg #[(.int .i64 0),(.int .i64 0),(.int .i64 0),(.slice none 0 0),(.slice none 0 0),(.int .i64 0)]),size:=6,bytes:=80 }
abbrev y1u:TI:={ desc:= .slice 52,zero:=(.slice none 0 0),size:=1,bytes:=24 }
abbrev y1d:TI:={ desc:= .slice 106,zero:=(.slice none 0 0),size:=1,bytes:=24 }
abbrev y1m:TI:={ desc:= .struct #[{ name:= "Marks",type:=23,offset:=0,embedded:=false,tag:= "",pkgPath:= "",byteOffset:=0 },{ name:= "Engines",type:=56,offset:=1,embedded:=false,tag:= "",pkgPath:= "",byteOffset:=24 }],zero:=(.agg #[(.slice none 0 0),(.slice none 0 0)]),size:=2,bytes:=48 }
abbrev z18:TI:={ desc:= .slice 58,zero:=(.slice none 0 0),size:=1,bytes:=24 }
abbrev z11:TI:={ desc:= .struct #[{ name:= "Number",type:=3,offset:=0,embedded:=false,tag:= "",pkgPath:= "",byteOffset:=0 },{ name:= "Readers",type:=53,offset:=1,embedded:=false,tag:= "",pkgPath:= "",byteOffset:=8 },{ name:= "Operators",type:=59,offset:=2,embedded:=false,tag:= "",pkgPath:= "",byteOffset:=32 }],zero:=(.agg #[(.int .i64 0),(.slice none 0 0),(.slice none 0 0)]),size:=3,bytes:=56 }
abbrev y1o:TI:={ desc:= .slice 126,zero:=(.slice none 0 0),size:=1,bytes:=24 }
abbrev y1s:TI:={ desc:= .struct #[{ name:= "Bindings",type:=74,offset:=0,embedded:=false,tag:= "",pkgPath:= "",byteOffset:=0 }],zero:=(.agg #[(.slice none 0 0)]),size:=1,bytes:=24 }
abbrev y1a:TI:={ desc:= .struct #[{ name:= "Sign",type:=3,offset:=0,embedded:=false,tag:= "",pkgPath:= "",byteOffset:=0 },{ name:= "Query",type:=3,offset:=1,embedded:=false,tag:= "",pkgPath:= "",byteOffset:=8 },{ name:= "Match",type:=76,offset:=2,embedded:=false,tag:= "",pkgPath:= "",byteOffset:=16 }],zero:=(.agg #[(.int .i64 0),(.int .i64 0),(.slice none 0 0)]),size:=3,bytes:=40 }
abbrev x1k:TI:={ desc:= .func #[132] #[] false,zero:= .nilFunc,size:=1,bytes:=8 }
abbrev y1n:TI:={ desc:= .slice 4,zero:=(.slice none 0 0),size:=1,bytes:=24 }
abbrev z1y:TI:={ desc:= .struct #[{ name:= "Number",type:=3,offset:=0,embedded:=false,tag:= "",pkgPath:= "",byteOffset:=0 },{ name:= "Readers",type:=53,offset:=1,embedded:=false,tag:= "",pkgPath:= "",byteOffset:=8 },{ name:= "Operators",type:=59,offset:=2,embedded:=false,tag:= "",pkgPath:= "",byteOffset:=32 },{ name:= "Have",type:=91,offset:=3,embedded:=false,tag:= "",pkgPath:= "",byteOffset:=56 }],zero:=(.agg #[(.int .i64 0),(.slice none 0 0),(.slice none 0 0),(.slice none 0 0)]),size:=4,bytes:=80 }
abbrev y1t:TI:={ desc:= .pointer 93,zero:=(.pointer none),size:=1,bytes:=8 }
abbrev k0v:TI:={ desc:= .struct #[{ name:= "Kind",type:=3,offset:=0,embedded:=false,tag:= "",pkgPath:= "",byteOffset:=0 },{ name:= "Num",type:=3,offset:=1,embedded:=false,tag:= "",pkgPath:= "",byteOffset:=8 },{ name:= "Text",type:=9,offset:=2,embedded:=false,tag:= "",pkgPath:= "",byteOffset:=16 }],zero:=(.agg #[(.int .i64 0),(.int .i64 0),(.string ⟨#[]⟩)]),size:=3,bytes:=32,eqv:=true }
abbrev k0d:TI:={ desc:= .slice 289,zero:=(.slice none 0 0),size:=1,bytes:=24 }
abbrev v06:TI:={ desc:= .slice 294,zero:=(.slice none 0 0),size:=1,bytes:=24 }
abbrev k0w:TI:={ desc:= .struct #[{ name:= "Mark",type:=3,offset:=0,embedded:=false,tag:= "",pkgPath:= "",byteOffset:=0 },{ name:= "Waiting",type:=101,offset:=1,embedded:=false,tag:= "",pkgPath:= "",byteOffset:=8 },{ name:= "Runs",type:=102,offset:=2,embedded:=false,tag:= "",pkgPath:= "",byteOffset:=32 },{ name:= "Held",type:=101,offset:=3,embedded:=false,tag:= "",pkgPath:= "",byteOffset:=56 }],zero:=(.agg #[(.int .i64 0),(.slice none 0 0),(.slice none 0 0),(.slice none 0 0)]),size:=4,bytes:=80 }
abbrev k0c:TI:={ desc:= .struct #[{ name:= "Query",type:=3,offset:=0,embedded:=false,tag:= "",pkgPath:= "",byteOffset:=0 },{ name:= "Key",type:=100,offset:=1,embedded:=false,tag:= "",pkgPath:= "",byteOffset:=8 },{ name:= "Engine",type:=104,offset:=4,embedded:=false,tag:= "",pkgPath:= "",byteOffset:=40 }],zero:=(.agg #[(.int .i64 0),(.int .i64 0),(.int .i64 0),(.string ⟨#[]⟩),(.int .i64 0),(.slice none 0 0),(.slice none 0 0),(.slice none 0 0)]),size:=8,bytes:=120 }
abbrev u0b:TI:={ desc:= .slice 112,zero:=(.slice none 0 0),size:=1,bytes:=24 }
abbrev v0u:TI:={ desc:= .func #[39] #[39,45] false,zero:= .nilFunc,size:=1,bytes:=8 }
abbrev v0h:TI:={ desc:= .struct #[{ name:= "Time",type:=3,offset:=0,embedded:=false,tag:= "",pkgPath:= "",byteOffset:=0 },{ name:= "Source",type:=3,offset:=1,embedded:=false,tag:= "",pkgPath:= "",byteOffset:=8 },{ name:= "Seq",type:=3,offset:=2,embedded:=false,tag:= "",pkgPath:= "",byteOffset:=16 }],zero:=(.agg #[(.int .i64 0),(.int .i64 0),(.int .i64 0)]),size:=3,bytes:=24,eqv:=true }
abbrev u0z:TI:={ desc:= .struct #[{ name:= "Var",type:=3,offset:=0,embedded:=false,tag:= "",pkgPath:= "",byteOffset:=0 },{ name:= "Ref",type:=124,offset:=1,embedded:=false,tag:= "",pkgPath:= "",byteOffset:=8 }],zero:=(.agg #[(.int .i64 0),(.int .i64 0),(.int .i64 0),(.int .i64 0)]),size:=4,bytes:=32,eqv:=true }
abbrev u07:TI:={ desc:= .struct #[{ name:= "Epoch",type:=3,offset:=0,embedded:=false,tag:= "",pkgPath:= "",byteOffset:=0 },{ name:= "Changes",type:=33,offset:=1,embedded:=false,tag:= "",pkgPath:= "",byteOffset:=8 }],zero:=(.agg #[(.int .i64 0),(.slice none 0 0)]),size:=2,bytes:=32 }
abbrev v09:TI:={ desc:= .slice 143,zero:=(.slice none 0 0),size:=1,bytes:=24 }
abbrev f02:TI:={ desc:= .func #[141] #[] false,zero:= .nilFunc,size:=1,bytes:=8 }
abbrev v0l:TI:={ desc:= .func #[94,94] #[4] false,zero:= .nilFunc,size:=1,bytes:=8 }
abbrev k0k:TI:={ desc:= .struct #[{ name:= "holds",type:=141,offset:=0,embedded:=false,tag:= "",pkgPath:= "tidegate/coordinator",byteOffset:=0 },{ name:= "e",type:=45,offset:=1,embedded:=false,tag:= "",pkgPath:= "tidegate/coordinator",byteOffset:=8 }],zero:=(.agg #[.nilFunc,(.int .i64 0)]),size:=2,bytes:=16 }
abbrev j0b:TI:={ desc:= .struct #[{ name:= "Name",type:=9,offset:=0,embedded:=false,tag:= "",pkgPath:= "",byteOffset:=0 },{ name:= "Durable",type:=9,offset:=1,embedded:=false,tag:= "",pkgPath:= "",byteOffset:=16 },{ name:= "Volatile",type:=9,offset:=2,embedded:=false,tag:= "",pkgPath:= "",byteOffset:=32 }],zero:=(.agg #[(.string ⟨#[]⟩),(.string ⟨#[]⟩),(.string ⟨#[]⟩)]),size:=3,bytes:=48,eqv:=true }
abbrev u0a:TI:={ desc:= .struct #[{ name:= "left",type:=23,offset:=0,embedded:=false,tag:= "",pkgPath:= "tidegate/disk",byteOffset:=0 }],zero:=(.agg #[(.slice none 0 0)]),size:=1,bytes:=24 }
abbrev f0g:TI:={ desc:= .func #[3] #[3] false,zero:= .nilFunc,size:=1,bytes:=8 }
abbrev j08:TI:={ desc:= .func #[196] #[] false,zero:= .nilFunc,size:=1,bytes:=8 }
abbrev g0j:TI:={ desc:= .func #[134,3] #[3] false,zero:= .nilFunc,size:=1,bytes:=8 }
abbrev u0x:TI:={ desc:= .func #[] #[93] false,zero:= .nilFunc,size:=1,bytes:=8 }
abbrev v0a:TI:={ desc:= .pointer 205,zero:=(.pointer none),size:=1,bytes:=8 }
abbrev f03:TI:={ desc:= .func #[180] #[] false,zero:= .nilFunc,size:=1,bytes:=8 }
abbrev f0e:TI:={ desc:= .func #[9] #[9] false,zero:= .nilFunc,size:=1,bytes:=8 }
abbrev f0r:TI:={ desc:= .int .u64,zero:=(.int .u64 0),size:=1,bytes:=8 }
abbrev u0w:TI:={ desc:= .func #[3,9] #[4] false,zero:= .nilFunc,size:=1,bytes:=8 }
abbrev j02:TI:={ desc:= .func #[238] #[] false,zero:= .nilFunc,size:=1,bytes:=8 }
abbrev j09:TI:={ desc:= .func #[203] #[61] false,zero:= .nilFunc,size:=1,bytes:=8 }
abbrev u05:TI:={ desc:= .pointer 248,zero:=(.pointer none),size:=1,bytes:=8 }
abbrev v0m:TI:={ desc:= .struct #[{ name:= "out",type:=22,offset:=0,embedded:=false,tag:= "",pkgPath:= "tidegate/codec",byteOffset:=0 },{ name:= "e",type:=45,offset:=1,embedded:=false,tag:= "",pkgPath:= "tidegate/codec",byteOffset:=24 }],zero:=(.agg #[(.slice none 0 0),(.int .i64 0)]),size:=2,bytes:=32 }
abbrev d03:TI:={ desc:= .func #[3] #[] false,zero:= .nilFunc,size:=1,bytes:=8 }
abbrev f0n:TI:={ desc:= .func #[52] #[] false,zero:= .nilFunc,size:=1,bytes:=8 }
abbrev g02:TI:={ desc:= .func #[58] #[] false,zero:= .nilFunc,size:=1,bytes:=8 }
abbrev g0x:TI:={ desc:= .slice 9,zero:=(.slice none 0 0),size:=1,bytes:=24 }
abbrev d0h:TI:={ desc:= .func #[155,9] #[3] false,zero:= .nilFunc,size:=1,bytes:=8 }
abbrev c0a:TI:={ desc:= .array 256 4,zero:=(.agg #[(.bool false),(.bool false),(.bool false),(.bool false),(.bool false),(.bool false),(.bool false),(.bool false),(.bool false),(.bool false),(.bool false),(.bool false),(.bool false),(.bool false),(.bool false),(.bool false),(.bool false),(.bool false),(.bool false),(.bool false),(.bool false),(.bool false),(.bool false),(.bool false),(.bool false),(.bool false),(.bool false),(.bool false),(.bool false),(.bool false),(.bool false),(.bool false),(.bool false),(.bool false),(.bool false),(.bool false),(.bool false),(.bool false),(.bool false),(.bool false),(.bool false),(.bool false),(.bool false),(.bool false),(.bool false),(.bool false),(.bool false),(.bool false),(.bool false),(.bool false),(.bool false),(.bool false),(.bool false),(.bool false),(.bool false),(.bool false),(.bool false),(.bool false),(.bool false),(.bool false),(.bool false),(.bool false),(.bool false),(.bool false),(.bool false),(.bool false),(.bool false),(.bool false),(.bool false),(.bool false),(.bool false),(.bool false),(.bool false),(.bool false),(.bool false),(.bool false),(.bool false),(.bool false),(.bool false),(.bool false),(.bool false),(.bool false),(.bool false),(.bool false),(.bool false),(.bool false),(.bool false),(.bool false),(.bool false),(.bool false),(.bool false),(.bool false),(.bool false),(.bool false),(.bool false),(.bool false),(.bool false),(.bool false),(.bool false),(.bool false),(.bool false),(.bool false),(.bool false),(.bool false),(.bool false),(.bool false),(.bool false),(.bool false),(.bool false),(.bool false),(.bool false),(.bool false),(.bool false),(.bool false),(.bool false),(.bool false),(.bool false),(.bool false),(.bool false),(.bool false),(.bool false),(.bool false),(.bool false),(.bool false),(.bool false),(.bool false),(.bool false),(.bool false),(.bool false),(.bool false),(.bool false),(.bool false),(.bool false),(.bool false),(.bool false),(.bool false),(.bool false),(.bool false),(.bool false),(.bool false),(.bool false),(.bool false),(.bool false),(.bool false),(.bool false),(.bool false),(.bool false),(.bool false),(.bool false),(.bool false),(.bool false),(.bool false),(.bool false),(.bool false),(.bool false),(.bool false),(.bool false),(.bool false),(.bool false),(.bool false),(.bool false),(.bool false),(.bool false),(.bool false),(.bool false),(.bool false),(.bool false),(.bool false),(.bool false),(.bool false),(.bool false),(.bool false),(.bool false),(.bool false),(.bool false),(.bool false),(.bool false),(.bool false),(.bool false),(.bool false),(.bool false),(.bool false),(.bool false),(.bool false),(.bool false),(.bool false),(.bool false),(.bool false),(.bool false),(.bool false),(.bool false),(.bool false),(.bool false),(.bool false),(.bool false),(.bool false),(.bool false),(.bool false),(.bool false),(.bool false),(.bool false),(.bool false),(.bool false),(.bool false),(.bool false),(.bool false),(.bool false),(.bool false),(.bool false),(.bool false),(.bool false),(.bool false),(.bool false),(.bool false),(.bool false),(.bool false),(.bool false),(.bool false),(.bool false),(.bool false),(.bool false),(.bool false),(.bool false),(.bool false),(.bool false),(.bool false),(.bool false),(.bool false),(.bool false),(.bool false),(.bool false),(.bool false),(.bool false),(.bool false),(.bool false),(.bool false),(.bool false),(.bool false),(.bool false),(.bool false),(.bool false),(.bool false),(.bool false),(.bool false),(.bool false),(.bool false),(.bool false),(.bool false),(.bool false),(.bool false),(.bool false),(.bool false),(.bool false),(.bool false),(.bool false),(.bool false)]),size:=256,bytes:=256,eqv:=true }
abbrev d0m:TI:={ desc:= .pointer 222,zero:=(.pointer none),size:=1,bytes:=8 }
abbrev u0t:TI:={ desc:= .interface #[("Error",330)],zero:= .nilIface,size:=1,bytes:=16 }
abbrev v0j:TI:={ desc:= .int .u32,zero:=(.int .u32 0),size:=1,bytes:=4 }
abbrev u0m:TI:={ desc:= .int .u64,zero:=(.int .u64 0),size:=1,bytes:=8 }
abbrev j03:TI:={ desc:= .func #[155] #[4] false,zero:= .nilFunc,size:=1,bytes:=8 }
abbrev k05:TI:={ desc:= .struct #[{ name:= "s",type:=9,offset:=0,embedded:=false,tag:= "",pkgPath:= "tidegate/codec",byteOffset:=0 },{ name:= "e",type:=45,offset:=1,embedded:=false,tag:= "",pkgPath:= "tidegate/codec",byteOffset:=16 }],zero:=(.agg #[(.string ⟨#[]⟩),(.int .i64 0)]),size:=2,bytes:=24,eqv:=true }
abbrev f0h:TI:={ desc:= .func #[] #[3] false,zero:= .nilFunc,size:=1,bytes:=8 }
abbrev g0i:TI:={ desc:= .func #[] #[52] false,zero:= .nilFunc,size:=1,bytes:=8 }
abbrev d0c:TI:={ desc:= .func #[] #[58] false,zero:= .nilFunc,size:=1,bytes:=8 }
abbrev u0j:TI:={ desc:= .struct #[{ name:= "Seq",type:=3,offset:=0,embedded:=false,tag:= "",pkgPath:= "",byteOffset:=0 },{ name:= "Time",type:=3,offset:=1,embedded:=false,tag:= "",pkgPath:= "",byteOffset:=8 }],zero:=(.agg #[(.int .i64 0),(.int .i64 0)]),size:=2,bytes:=16,eqv:=true }
abbrev d0u:TI:={ desc:= .func #[258] #[] false,zero:= .nilFunc,size:=1,bytes:=8 }
abbrev j07:TI:={ desc:= .func #[100] #[] false,zero:= .nilFunc,size:=1,bytes:=8 }
abbrev f08:TI:={ desc:= .func #[106] #[] false,zero:= .nilFunc,size:=1,bytes:=8 }
abbrev j04:TI:={ desc:= .func #[] #[258] false,zero:= .nilFunc,size:=1,bytes:=8 }
abbrev g0r:TI:={ desc:= .func #[] #[106] false,zero:= .nilFunc,size:=1,bytes:=8 }
abbrev x0z:TI:={ desc:= .slice 100,zero:=(.slice none 0 0),size:=1,bytes:=24 }
abbrev u0p:TI:={ desc:= .struct #[{ name:= "Source",type:=3,offset:=0,embedded:=false,tag:= "",pkgPath:= "",byteOffset:=0 },{ name:= "Seq",type:=3,offset:=1,embedded:=false,tag:= "",pkgPath:= "",byteOffset:=8 },{ name:= "Type",type:=3,offset:=2,embedded:=false,tag:= "",pkgPath:= "",byteOffset:=16 },{ name:= "Time",type:=3,offset:=3,embedded:=false,tag:= "",pkgPath:= "",byteOffset:=24 },{ name:= "Values",type:=287,offset:=4,embedded:=false,tag:= "",pkgPath:= "",byteOffset:=32 }],zero:=(.agg #[(.int .i64 0),(.int .i64 0),(.int .i64 0),(.int .i64 0),(.slice none 0 0)]),size:=5,bytes:=56 }
abbrev d0y:TI:={ desc:= .func #[289] #[] false,zero:= .nilFunc,size:=1,bytes:=8 }
abbrev v0q:TI:={ desc:= .slice 317,zero:=(.slice none 0 0),size:=1,bytes:=24 }
abbrev j0c:TI:={ desc:= .struct #[{ name:= "State",type:=3,offset:=0,embedded:=false,tag:= "",pkgPath:= "",byteOffset:=0 },{ name:= "Bindings",type:=74,offset:=1,embedded:=false,tag:= "",pkgPath:= "",byteOffset:=8 },{ name:= "Starts",type:=292,offset:=2,embedded:=false,tag:= "",pkgPath:= "",byteOffset:=32 }],zero:=(.agg #[(.int .i64 0),(.slice none 0 0),(.slice none 0 0)]),size:=3,bytes:=56 }
abbrev g0d:TI:={ desc:= .func #[294] #[] false,zero:= .nilFunc,size:=1,bytes:=8 }
abbrev d01:TI:={ desc:= .func #[] #[100] false,zero:= .nilFunc,size:=1,bytes:=8 }
abbrev g0v:TI:={ desc:= .func #[126] #[] false,zero:= .nilFunc,size:=1,bytes:=8 }
abbrev k01:TI:={ desc:= .struct #[{ name:= "Scope",type:=3,offset:=0,embedded:=false,tag:= "",pkgPath:= "",byteOffset:=0 },{ name:= "Time",type:=3,offset:=1,embedded:=false,tag:= "",pkgPath:= "",byteOffset:=8 }],zero:=(.agg #[(.int .i64 0),(.int .i64 0)]),size:=2,bytes:=16,eqv:=true }
abbrev g00:TI:={ desc:= .func #[317] #[] false,zero:= .nilFunc,size:=1,bytes:=8 }
abbrev d0x:TI:={ desc:= .func #[] #[289] false,zero:= .nilFunc,size:=1,bytes:=8 }
abbrev d0q:TI:={ desc:= .func #[] #[294] false,zero:= .nilFunc,size:=1,bytes:=8 }
abbrev f0q:TI:={ desc:= .func #[] #[126] false,zero:= .nilFunc,size:=1,bytes:=8 }
abbrev f09:TI:={ desc:= .func #[] #[317] false,zero:= .nilFunc,size:=1,bytes:=8 }
attribute [simp] D2_ D3_ D4_ D5_ D9_ z19 y1q y1k y1f z1z y1v y1b y1r z1w y1h y1l y1c y1p z1x z14 y1u y1d y1m z18 z11 y1o y1s y1a x1k y1n z1y y1t k0v k0d v06 k0w k0c u0b v0u v0h u0z u07 v09 f02 v0l k0k j0b u0a f0g j08 g0j u0x v0a f03 f0e f0r u0w j02 j09 u05 v0m d03 f0n g02 g0x d0h c0a d0m u0t v0j u0m j03 k05 f0h g0i d0c u0j d0u j07 f08 j04 g0r x0z u0p d0y v0q j0c g0d d01 g0v k01 g00 d0x d0q f0q f09
def T:TT:=[(2,D2_),(3,D3_),(4,D4_),(5,D5_),(9,D9_),(22,z19),(23,y1q),(25,y1k),(30,y1f),(32,z1z),(33,y1v),(34,y1b),(36,y1r),(37,z1w),(39,y1h),(41,y1l),(45,y1c),(48,y1p),(50,z1x),(52,z14),(53,y1u),(56,y1d),(58,y1m),(59,z18),(61,z11),(74,y1o),(76,y1s),(78,y1a),(85,x1k),(91,y1n),(93,z1y),(94,y1t),(100,k0v),(101,k0d),(102,v06),(104,k0w),(106,k0c),(110,u0b),(112,v0u),(124,v0h),(126,u0z),(134,u07),(136,v09),(139,f02),(141,v0l),(143,k0k),(155,j0b),(165,u0a),(167,f0g),(169,j08),(176,g0j),(177,u0x),(180,v0a),(182,f03),(184,f0e),(193,f0r),(196,u0w),(198,j02),(201,j09),(203,u05),(205,v0m),(208,d03),(210,f0n),(212,g02),(214,g0x),(217,d0h),(222,c0a),(226,d0m),(230,u0t),(242,v0j),(244,u0m),(246,j03),(248,k05),(249,f0h),(251,g0i),(253,d0c),(258,u0j),(259,d0u),(261,j07),(263,f08),(282,j04),(284,g0r),(287,x0z),(289,u0p),(290,d0y),(292,v0q),(294,j0c),(295,g0d),(310,d01),(314,g0v),(317,k01),(318,g00),(332,d0x),(334,d0q),(344,f0q),(346,f09)]
def Q3(P:Program)(T:TT)(t:Nat)(i:TI):Prop:=P.underlying t=some i.desc/\(P.info? t).map (λj=>(j.zero,j.size,j.bytes))=some (some i.zero,i.size,i.bytes)/\
 (i.eqv=true->P.stoodInHeld t=false/\P.eqGuardType P.depth t=false)/\(∀fs,i.desc= .struct fs->U0 T fs=true)
def u1p:Q3 prog T 2 D2_:=
 ⟨by kernel_rfl,by kernel_rfl,λh=>(by simp at h),λfs h=>(by simp at h)⟩
def u1o:Q3 prog T 3 D3_:=
 ⟨by kernel_rfl,by kernel_rfl,λh=>(by simp at h),λfs h=>(by simp at h)⟩
def u10:Q3 prog T 4 D4_:=
 ⟨by kernel_rfl,by kernel_rfl,λh=>(by simp at h),λfs h=>(by simp at h)⟩
def u19:Q3 prog T 5 D5_:=
 ⟨by kernel_rfl,by kernel_rfl,λh=>(by simp at h),λfs h=>(by simp at h)⟩
def u1z:Q3 prog T 9 D9_:=
 ⟨by kernel_rfl,by kernel_rfl,λh=>(by simp at h),λfs h=>(by simp at h)⟩
def v1u:Q3 prog T 22 z19:=
 ⟨by kernel_rfl,by kernel_rfl,λh=>(by simp at h),λfs h=>(by simp at h)⟩
def v1p:Q3 prog T 23 y1q:=
 ⟨by kernel_rfl,by kernel_rfl,λh=>(by simp at h),λfs h=>(by simp at h)⟩
def x1d:Q3 prog T 25 y1k:=
 ⟨by kernel_rfl,by kernel_rfl,λh=>(by simp at h),λfs h=>(by simp at h)⟩
def x17:Q3 prog T 30 y1f:=
 ⟨by kernel_rfl,by kernel_rfl,λh=>(by simp at h),λfs h=>(by simp at h)⟩
def x15:Q3 prog T 32 z1z:=
 ⟨by kernel_rfl,by kernel_rfl,λh=>(by simp at h),λfs h=>(by cases h;kernel_rfl)⟩
def x1u:Q3 prog T 33 y1v:=
 ⟨by kernel_rfl,by kernel_rfl,λh=>(by simp at h),λfs h=>(by simp at h)⟩
def y14:Q3 prog T 34 y1b:=
 ⟨by kernel_rfl,by kernel_rfl,λh=>(by simp at h),λfs h=>(by simp at h)⟩
def x1n:Q3 prog T 36 y1r:=
 ⟨by kernel_rfl,by kernel_rfl,λh=>(by simp at h),λfs h=>(by cases h;kernel_rfl)⟩
def v1l:Q3 prog T 37 z1w:=
 ⟨by kernel_rfl,by kernel_rfl,λh=>(by simp at h),λfs h=>(by simp at h)⟩
def x1r:Q3 prog T 39 y1h:=
 ⟨by kernel_rfl,by kernel_rfl,λh=>(by simp at h),λfs h=>(by cases h;kernel_rfl)⟩
def v1h:Q3 prog T 41 y1l:=
 ⟨by kernel_rfl,by kernel_rfl,λh=>(by simp at h),λfs h=>(by cases h;kernel_rfl)⟩
def x14:Q3 prog T 45 y1c:=
 ⟨by kernel_rfl,by kernel_rfl,λh=>(by simp at h),λfs h=>(by simp at h)⟩
def x1a:Q3 prog T 48 y1p:=
 ⟨by kernel_rfl,by kernel_rfl,λh=>(by simp at h),λfs h=>(by simp at h)⟩
def x13:Q3 prog T 50 z1x:=
 ⟨by kernel_rfl,by kernel_rfl,λh=>(by simp at h),λfs h=>(by cases h;kernel_rfl)⟩
def x1t:Q3 prog T 52 z14:=
 ⟨by kernel_rfl,by kernel_rfl,λh=>(by simp at h),λfs h=>(by cases h;kernel_rfl)⟩
def v1m:Q3 prog T 53 y1u:=
 ⟨by kernel_rfl,by kernel_rfl,λh=>(by simp at h),λfs h=>(by simp at h)⟩
def v1g:Q3 prog T 56 y1d:=
 ⟨by kernel_rfl,by kernel_rfl,λh=>(by simp at h),λfs h=>(by simp at h)⟩
def x1j:Q3 prog T 58 y1m:=
 ⟨by kernel_rfl,by kernel_rfl,λh=>(by simp at h),λfs h=>(by cases h;kernel_rfl)⟩
def x1y:Q3 prog T 59 z18:=
 ⟨by kernel_rfl,by kernel_rfl,λh=>(by simp at h),λfs h=>(by simp at h)⟩
def v1f:Q3 prog T 61 z11:=
 ⟨by kernel_rfl,by kernel_rfl,λh=>(by simp at h),λfs h=>(by cases h;kernel_rfl)⟩
def v1t:Q3 prog T 74 y1o:=
 ⟨by kernel_rfl,by kernel_rfl,λh=>(by simp at h),λfs h=>(by simp at h)⟩
def y10:Q3 prog T 76 y1s:=
 ⟨by kernel_rfl,by kernel_rfl,λh=>(by simp at h),λfs h=>(by cases h;kernel_rfl)⟩
def y13:Q3 prog T 78 y1a:=
 ⟨by kernel_rfl,by kernel_rfl,λh=>(by simp at h),λfs h=>(by cases h;kernel_rfl)⟩
def v1n:Q3 prog T 85 x1k:=
 ⟨by kernel_rfl,by kernel_rfl,λh=>(by simp at h),λfs h=>(by simp at h)⟩
def y17:Q3 prog T 91 y1n:=
 ⟨by kernel_rfl,by kernel_rfl,λh=>(by simp at h),λfs h=>(by simp at h)⟩
def x19:Q3 prog T 93 z1y:=
 ⟨by kernel_rfl,by kernel_rfl,λh=>(by simp at h),λfs h=>(by cases h;kernel_rfl)⟩
def x1o:Q3 prog T 94 y1t:=
 ⟨by kernel_rfl,by kernel_rfl,λh=>(by simp at h),λfs h=>(by simp at h)⟩
def z1e:Q3 prog T 100 k0v:=
 ⟨by kernel_rfl,by kernel_rfl,λ_=>⟨by kernel_rfl,by kernel_rfl⟩,λfs h=>(by cases h;kernel_rfl)⟩
def w1y:Q3 prog T 101 k0d:=
 ⟨by kernel_rfl,by kernel_rfl,λh=>(by simp at h),λfs h=>(by simp at h)⟩
def w1h:Q3 prog T 102 v06:=
 ⟨by kernel_rfl,by kernel_rfl,λh=>(by simp at h),λfs h=>(by simp at h)⟩
def c0r:Q3 prog T 104 k0w:=
 ⟨by kernel_rfl,by kernel_rfl,λh=>(by simp at h),λfs h=>(by cases h;kernel_rfl)⟩
def w1k:Q3 prog T 106 k0c:=
 ⟨by kernel_rfl,by kernel_rfl,λh=>(by simp at h),λfs h=>(by cases h;kernel_rfl)⟩
def z1k:Q3 prog T 110 u0b:=
 ⟨by kernel_rfl,by kernel_rfl,λh=>(by simp at h),λfs h=>(by simp at h)⟩
def q11:Q3 prog T 112 v0u:=
 ⟨by kernel_rfl,by kernel_rfl,λh=>(by simp at h),λfs h=>(by simp at h)⟩
def c08:Q3 prog T 124 v0h:=
 ⟨by kernel_rfl,by kernel_rfl,λ_=>⟨by kernel_rfl,by kernel_rfl⟩,λfs h=>(by cases h;kernel_rfl)⟩
def z1i:Q3 prog T 126 u0z:=
 ⟨by kernel_rfl,by kernel_rfl,λ_=>⟨by kernel_rfl,by kernel_rfl⟩,λfs h=>(by cases h;kernel_rfl)⟩
def c06:Q3 prog T 134 u07:=
 ⟨by kernel_rfl,by kernel_rfl,λh=>(by simp at h),λfs h=>(by cases h;kernel_rfl)⟩
def z1q:Q3 prog T 136 v09:=
 ⟨by kernel_rfl,by kernel_rfl,λh=>(by simp at h),λfs h=>(by simp at h)⟩
def q1o:Q3 prog T 139 f02:=
 ⟨by kernel_rfl,by kernel_rfl,λh=>(by simp at h),λfs h=>(by simp at h)⟩
def z1r:Q3 prog T 141 v0l:=
 ⟨by kernel_rfl,by kernel_rfl,λh=>(by simp at h),λfs h=>(by simp at h)⟩
def w1p:Q3 prog T 143 k0k:=
 ⟨by kernel_rfl,by kernel_rfl,λh=>(by simp at h),λfs h=>(by cases h;kernel_rfl)⟩
def c0y:Q3 prog T 155 j0b:=
 ⟨by kernel_rfl,by kernel_rfl,λ_=>⟨by kernel_rfl,by kernel_rfl⟩,λfs h=>(by cases h;kernel_rfl)⟩
def z1j:Q3 prog T 165 u0a:=
 ⟨by kernel_rfl,by kernel_rfl,λh=>(by simp at h),λfs h=>(by cases h;kernel_rfl)⟩
def w1w:Q3 prog T 167 f0g:=
 ⟨by kernel_rfl,by kernel_rfl,λh=>(by simp at h),λfs h=>(by simp at h)⟩
def z1o:Q3 prog T 169 j08:=
 ⟨by kernel_rfl,by kernel_rfl,λh=>(by simp at h),λfs h=>(by simp at h)⟩
def c0t:Q3 prog T 176 g0j:=
 ⟨by kernel_rfl,by kernel_rfl,λh=>(by simp at h),λfs h=>(by simp at h)⟩
def q12:Q3 prog T 177 u0x:=
 ⟨by kernel_rfl,by kernel_rfl,λh=>(by simp at h),λfs h=>(by simp at h)⟩
def q1g:Q3 prog T 180 v0a:=
 ⟨by kernel_rfl,by kernel_rfl,λh=>(by simp at h),λfs h=>(by simp at h)⟩
def w1g:Q3 prog T 182 f03:=
 ⟨by kernel_rfl,by kernel_rfl,λh=>(by simp at h),λfs h=>(by simp at h)⟩
def c03:Q3 prog T 184 f0e:=
 ⟨by kernel_rfl,by kernel_rfl,λh=>(by simp at h),λfs h=>(by simp at h)⟩
def c0z:Q3 prog T 193 f0r:=
 ⟨by kernel_rfl,by kernel_rfl,λh=>(by simp at h),λfs h=>(by simp at h)⟩
def q1s:Q3 prog T 196 u0w:=
 ⟨by kernel_rfl,by kernel_rfl,λh=>(by simp at h),λfs h=>(by simp at h)⟩
def z1f:Q3 prog T 198 j02:=
 ⟨by kernel_rfl,by kernel_rfl,λh=>(by simp at h),λfs h=>(by simp at h)⟩
def w1x:Q3 prog T 201 j09:=
 ⟨by kernel_rfl,by kernel_rfl,λh=>(by simp at h),λfs h=>(by simp at h)⟩
def q15:Q3 prog T 203 u05:=
 ⟨by kernel_rfl,by kernel_rfl,λh=>(by simp at h),λfs h=>(by simp at h)⟩
def c01:Q3 prog T 205 v0m:=
 ⟨by kernel_rfl,by kernel_rfl,λh=>(by simp at h),λfs h=>(by cases h;kernel_rfl)⟩
def c04:Q3 prog T 208 d03:=
 ⟨by kernel_rfl,by kernel_rfl,λh=>(by simp at h),λfs h=>(by simp at h)⟩
def c0m:Q3 prog T 210 f0n:=
 ⟨by kernel_rfl,by kernel_rfl,λh=>(by simp at h),λfs h=>(by simp at h)⟩
def q1z:Q3 prog T 212 g02:=
 ⟨by kernel_rfl,by kernel_rfl,λh=>(by simp at h),λfs h=>(by simp at h)⟩
def w1m:Q3 prog T 214 g0x:=
 ⟨by kernel_rfl,by kernel_rfl,λh=>(by simp at h),λfs h=>(by simp at h)⟩
def z1t:Q3 prog T 217 d0h:=
 ⟨by kernel_rfl,by kernel_rfl,λh=>(by simp at h),λfs h=>(by simp at h)⟩
def w19:Q3 prog T 222 c0a:=
 ⟨by kernel_rfl,by kernel_rfl,λ_=>⟨by kernel_rfl,by kernel_rfl⟩,λfs h=>(by simp at h)⟩
def q1r:Q3 prog T 226 d0m:=
 ⟨by kernel_rfl,by kernel_rfl,λh=>(by simp at h),λfs h=>(by simp at h)⟩
def q1w:Q3 prog T 230 u0t:=
 ⟨by kernel_rfl,by kernel_rfl,λh=>(by simp at h),λfs h=>(by simp at h)⟩
def c0l:Q3 prog T 242 v0j:=
 ⟨by kernel_rfl,by kernel_rfl,λh=>(by simp at h),λfs h=>(by simp at h)⟩
def c0v:Q3 prog T 244 u0m:=
 ⟨by kernel_rfl,by kernel_rfl,λh=>(by simp at h),λfs h=>(by simp at h)⟩
def c0s:Q3 prog T 246 j03:=
 ⟨by kernel_rfl,by kernel_rfl,λh=>(by simp at h),λfs h=>(by simp at h)⟩
def w1e:Q3 prog T 248 k05:=
 ⟨by kernel_rfl,by kernel_rfl,λ_=>⟨by kernel_rfl,by kernel_rfl⟩,λfs h=>(by cases h;kernel_rfl)⟩
def c09:Q3 prog T 249 f0h:=
 ⟨by kernel_rfl,by kernel_rfl,λh=>(by simp at h),λfs h=>(by simp at h)⟩
def c07:Q3 prog T 251 g0i:=
 ⟨by kernel_rfl,by kernel_rfl,λh=>(by simp at h),λfs h=>(by simp at h)⟩
def q1q:Q3 prog T 253 d0c:=
 ⟨by kernel_rfl,by kernel_rfl,λh=>(by simp at h),λfs h=>(by simp at h)⟩
def w16:Q3 prog T 258 u0j:=
 ⟨by kernel_rfl,by kernel_rfl,λ_=>⟨by kernel_rfl,by kernel_rfl⟩,λfs h=>(by cases h;kernel_rfl)⟩
def c0p:Q3 prog T 259 d0u:=
 ⟨by kernel_rfl,by kernel_rfl,λh=>(by simp at h),λfs h=>(by simp at h)⟩
def z1p:Q3 prog T 261 j07:=
 ⟨by kernel_rfl,by kernel_rfl,λh=>(by simp at h),λfs h=>(by simp at h)⟩
def c0u:Q3 prog T 263 f08:=
 ⟨by kernel_rfl,by kernel_rfl,λh=>(by simp at h),λfs h=>(by simp at h)⟩
def w1z:Q3 prog T 282 j04:=
 ⟨by kernel_rfl,by kernel_rfl,λh=>(by simp at h),λfs h=>(by simp at h)⟩
def q1x:Q3 prog T 284 g0r:=
 ⟨by kernel_rfl,by kernel_rfl,λh=>(by simp at h),λfs h=>(by simp at h)⟩
def z1l:Q3 prog T 287 x0z:=
 ⟨by kernel_rfl,by kernel_rfl,λh=>(by simp at h),λfs h=>(by simp at h)⟩
def c02:Q3 prog T 289 u0p:=
 ⟨by kernel_rfl,by kernel_rfl,λh=>(by simp at h),λfs h=>(by cases h;kernel_rfl)⟩
def q1u:Q3 prog T 290 d0y:=
 ⟨by kernel_rfl,by kernel_rfl,λh=>(by simp at h),λfs h=>(by simp at h)⟩
def w1d:Q3 prog T 292 v0q:=
 ⟨by kernel_rfl,by kernel_rfl,λh=>(by simp at h),λfs h=>(by simp at h)⟩
def q10:Q3 prog T 294 j0c:=
 ⟨by kernel_rfl,by kernel_rfl,λh=>(by simp at h),λfs h=>(by cases h;kernel_rfl)⟩
def c0n:Q3 prog T 295 g0d:=
 ⟨by kernel_rfl,by kernel_rfl,λh=>(by simp at h),λfs h=>(by simp at h)⟩
def q1t:Q3 prog T 310 d01:=
 ⟨by kernel_rfl,by kernel_rfl,λh=>(by simp at h),λfs h=>(by simp at h)⟩
def z1m:Q3 prog T 314 g0v:=
 ⟨by kernel_rfl,by kernel_rfl,λh=>(by simp at h),λfs h=>(by simp at h)⟩
def z1c:Q3 prog T 317 k01:=
 ⟨by kernel_rfl,by kernel_rfl,λ_=>⟨by kernel_rfl,by kernel_rfl⟩,λfs h=>(by cases h;kernel_rfl)⟩
def w1j:Q3 prog T 318 g00:=
 ⟨by kernel_rfl,by kernel_rfl,λh=>(by simp at h),λfs h=>(by simp at h)⟩
def w1a:Q3 prog T 332 d0x:=
 ⟨by kernel_rfl,by kernel_rfl,λh=>(by simp at h),λfs h=>(by simp at h)⟩
def w11:Q3 prog T 334 d0q:=
 ⟨by kernel_rfl,by kernel_rfl,λh=>(by simp at h),λfs h=>(by simp at h)⟩
def w1n:Q3 prog T 344 f0q:=
 ⟨by kernel_rfl,by kernel_rfl,λh=>(by simp at h),λfs h=>(by simp at h)⟩
def w1v:Q3 prog T 346 f09:=
 ⟨by kernel_rfl,by kernel_rfl,λh=>(by simp at h),λfs h=>(by simp at h)⟩
theorem tOk:TOk prog T:=λt i h=>by
 have hm:=Om h;simp only[T,yZ,List.not_mem_nil,or_false,Prod.mk.injEq]at hm;rcases hm with⟨rfl,rfl⟩|⟨rfl,rfl⟩|⟨rfl,rfl⟩|⟨rfl,rfl⟩|⟨rfl,rfl⟩|⟨rfl,rfl⟩|⟨rfl,rfl⟩|⟨rfl,rfl⟩|⟨rfl,rfl⟩|⟨rfl,rfl⟩|⟨rfl,rfl⟩|⟨rfl,rfl⟩|⟨rfl,rfl⟩|⟨rfl,rfl⟩|⟨rfl,rfl⟩|⟨rfl,rfl⟩|⟨rfl,rfl⟩|⟨rfl,rfl⟩|⟨rfl,rfl⟩|⟨rfl,rfl⟩|⟨rfl,rfl⟩|⟨rfl,rfl⟩|⟨rfl,rfl⟩|⟨rfl,rfl⟩|⟨rfl,rfl⟩|⟨rfl,rfl⟩|⟨rfl,rfl⟩|⟨rfl,rfl⟩|⟨rfl,rfl⟩|⟨rfl,rfl⟩|⟨rfl,rfl⟩|⟨rfl,rfl⟩|⟨rfl,rfl⟩|⟨rfl,rfl⟩|⟨rfl,rfl⟩|⟨rfl,rfl⟩|⟨rfl,rfl⟩|⟨rfl,rfl⟩|⟨rfl,rfl⟩|⟨rfl,rfl⟩|⟨rfl,rfl⟩|⟨rfl,rfl⟩|⟨rfl,rfl⟩|⟨rfl,rfl⟩|⟨rfl,rfl⟩|⟨rfl,rfl⟩|⟨rfl,rfl⟩|⟨rfl,rfl⟩|⟨rfl,rfl⟩|⟨rfl,rfl⟩|⟨rfl,rfl⟩|⟨rfl,rfl⟩|⟨rfl,rfl⟩|⟨rfl,rfl⟩|⟨rfl,rfl⟩|⟨rfl,rfl⟩|⟨rfl,rfl⟩|⟨rfl,rfl⟩|⟨rfl,rfl⟩|⟨rfl,rfl⟩|⟨rfl,rfl⟩|⟨rfl,rfl⟩|⟨rfl,rfl⟩|⟨rfl,rfl⟩|⟨rfl,rfl⟩|⟨rfl,rfl⟩|⟨rfl,rfl⟩|⟨rfl,rfl⟩|⟨rfl,rfl⟩|⟨rfl,rfl⟩|⟨rfl,rfl⟩|⟨rfl,rfl⟩|⟨rfl,rfl⟩|⟨rfl,rfl⟩|⟨rfl,rfl⟩|⟨rfl,rfl⟩|⟨rfl,rfl⟩|⟨rfl,rfl⟩|⟨rfl,rfl⟩|⟨rfl,rfl⟩|⟨rfl,rfl⟩|⟨rfl,rfl⟩|⟨rfl,rfl⟩|⟨rfl,rfl⟩|⟨rfl,rfl⟩|⟨rfl,rfl⟩|⟨rfl,rfl⟩|⟨rfl,rfl⟩|⟨rfl,rfl⟩|⟨rfl,rfl⟩|⟨rfl,rfl⟩|⟨rfl,rfl⟩|⟨rfl,rfl⟩|⟨rfl,rfl⟩|⟨rfl,rfl⟩|⟨rfl,rfl⟩
 ·exact u1p
 ·exact u1o
 ·exact u10
 ·exact u19
 ·exact u1z
 ·exact v1u
 ·exact v1p
 ·exact x1d
 ·exact x17
 ·exact x15
 ·exact x1u
 ·exact y14
 ·exact x1n
 ·exact v1l
 ·exact x1r
 ·exact v1h
 ·exact x14
 ·exact x1a
 ·exact x13
 ·exact x1t
 ·exact v1m
 ·exact v1g
 ·exact x1j
 ·exact x1y
 ·exact v1f
 ·exact v1t
 ·exact y10
 ·exact y13
 ·exact v1n
 ·exact y17
 ·exact x19
 ·exact x1o
 ·exact z1e
 ·exact w1y
 ·exact w1h
 ·exact c0r
 ·exact w1k
 ·exact z1k
 ·exact q11
 ·exact c08
 ·exact z1i
 ·exact c06
 ·exact z1q
 ·exact q1o
 ·exact z1r
 ·exact w1p
 ·exact c0y
 ·exact z1j
 ·exact w1w
 ·exact z1o
 ·exact c0t
 ·exact q12
 ·exact q1g
 ·exact w1g
 ·exact c03
 ·exact c0z
 ·exact q1s
 ·exact z1f
 ·exact w1x
 ·exact q15
 ·exact c01
 ·exact c04
 ·exact c0m
 ·exact q1z
 ·exact w1m
 ·exact z1t
 ·exact w19
 ·exact q1r
 ·exact q1w
 ·exact c0l
 ·exact c0v
 ·exact c0s
 ·exact w1e
 ·exact c09
 ·exact c07
 ·exact q1q
 ·exact w16
 ·exact c0p
 ·exact z1p
 ·exact c0u
 ·exact w1z
 ·exact q1x
 ·exact z1l
 ·exact c02
 ·exact q1u
 ·exact w1d
 ·exact q10
 ·exact c0n
 ·exact q1t
 ·exact z1m
 ·exact z1c
 ·exact w1j
 ·exact w1a
 ·exact w11
 ·exact w1n
 exact w1v
def T2:look T 2=some D2_:=rfl
def T3:look T 3=some D3_:=rfl
def T4:look T 4=some D4_:=rfl
def T5:look T 5=some D5_:=rfl
def T9:look T 9=some D9_:=rfl
def T22:look T 22=some z19:=rfl
def T23:look T 23=some y1q:=rfl
def T25:look T 25=some y1k:=rfl
def T30:look T 30=some y1f:=rfl
def T32:look T 32=some z1z:=rfl
def T33:look T 33=some y1v:=rfl
def T34:look T 34=some y1b:=rfl
def T36:look T 36=some y1r:=rfl
def T37:look T 37=some z1w:=rfl
def T39:look T 39=some y1h:=rfl
def T41:look T 41=some y1l:=rfl
def T45:look T 45=some y1c:=rfl
def T48:look T 48=some y1p:=rfl
def T50:look T 50=some z1x:=rfl
def T52:look T 52=some z14:=rfl
def T53:look T 53=some y1u:=rfl
def T56:look T 56=some y1d:=rfl
def T58:look T 58=some y1m:=rfl
def T59:look T 59=some z18:=rfl
def T61:look T 61=some z11:=rfl
def T74:look T 74=some y1o:=rfl
def T76:look T 76=some y1s:=rfl
def T78:look T 78=some y1a:=rfl
def T91:look T 91=some y1n:=rfl
def T93:look T 93=some z1y:=rfl
def T94:look T 94=some y1t:=rfl
def v14:look T 100=some k0v:=rfl
def v19:look T 101=some k0d:=rfl
def v15:look T 102=some v06:=rfl
def u1w:look T 104=some k0w:=rfl
def x1c:look T 106=some k0c:=rfl
def u1n:look T 110=some u0b:=rfl
def u1c:look T 112=some v0u:=rfl
def u1k:look T 124=some v0h:=rfl
def x1g:look T 126=some u0z:=rfl
def c0e:look T 134=some u07:=rfl
def u1s:look T 136=some v09:=rfl
def k1c:look T 141=some v0l:=rfl
def u1x:look T 143=some k0k:=rfl
def q0k:look T 155=some j0b:=rfl
def u1r:look T 165=some u0a:=rfl
def u1q:look T 177=some u0x:=rfl
def u1t:look T 180=some v0a:=rfl
def u14:look T 196=some u0w:=rfl
def u12:look T 203=some u05:=rfl
def k1b:look T 205=some v0m:=rfl
def y1w:look T 230=some u0t:=rfl
def u13:look T 242=some v0j:=rfl
def u1v:look T 244=some u0m:=rfl
def u15:look T 248=some k05:=rfl
def u1j:look T 258=some u0j:=rfl
def u1d:look T 287=some x0z:=rfl
def x1m:look T 289=some u0p:=rfl
def u1f:look T 292=some v0q:=rfl
def v1y:look T 294=some j0c:=rfl
def u1h:look T 317=some k01:=rfl
def mixed:prog.follows .mixedOrders=true:=by kernel_rfl
end
section
open Go.Proofs
def Hu:List Value:=Lib.pow10Tab.map λz=>Value.int .u64 z
def w0z(cs:List Value):Prop:=∃m,cs=[.int .i64 m]
def Fa(cs:List Value):Prop:=∃ev,cs=[ev]/\(ev= .nilIface\/∃te pe,ev= .iface te pe)
noncomputable instance env:Env prog:=⟨[(0,(·=Hu)),(7,w0z),(3,Fa),(4,Fa)]⟩
section
variable {P:Program} [Env P]
def ctA(P:Program)[Env P](T:TT)(nt k:Nat):Code->(Exit->AS->Prop)->AS->Option Prop
 |.seq x y,Q,S=>ctA P T nt k x (Pa (AWP P nt k y Q) Q) S
 |.block i c,Q,S=>ctA P T nt k c (D9 i Q) S
 |.region _ ⟨l⟩ false,Q,S=>match Yv nt l with
  |true=>some (D6 P T nt k l.toArray (Q .normal) l S)
  |false=>none
 |.skip,Q,S=>some (Q .normal S)
 |.exit i,Q,S=>some (Q (.exit i) S)
 |.ret,Q,S=>some (Q .ret S)
 |_,_,_=>none
def d0b{T:TT}{nt k:Nat}(hT:TOk P T){X:Prop}(x:X):∀(c:Code) (Q:Exit->AS->Prop) (S:AS),ctA P T nt k c Q S=some X->AWP P nt k c Q S
 |.seq _ _,_,S,h=>Qm (d0b hT x _ _ S h)
 |.block _ _,_,S,h=>Qr (d0b hT x _ _ S h)
 |.region i ⟨l⟩ false,Q,S,h=>by
  unfold ctA at h;split at h
  ·rename_i hd;cases h;exact Qk hT hd x
  cases h
 |.region _ ⟨_⟩ true,_,_,h=>nomatch h
 |.skip,_,_,h=>by cases h;exact Q1 x
 |.exit _,_,_,h=>by cases h;exact Q2 x
 |.ret,_,_,h=>by cases h;exact Wb x
 |.cond ..,_,_,h=>nomatch h
 |.loop ..,_,_,h=>nomatch h
 |.rangeFunc ..,_,_,h=>nomatch h
 |.scope ..,_,_,h=>nomatch h
 |.label ..,_,_,h=>nomatch h
 |.goto ..,_,_,h=>nomatch h
end
def cwA(P:Program)[Env P](nt k:Nat):Code->(Exit->AS->Prop)->AS->Prop
 |.seq x y,Q,S=>cwA P nt k x (Pa (AWP P nt k y Q) Q) S
 |.block i c,Q,S=>cwA P nt k c (D9 i Q) S
 |c,Q,S=>AWP P nt k c Q S
def g04{P:Program}[Env P]{nt k:Nat}:∀(c:Code) (Q:Exit->AS->Prop) (S:AS),cwA P nt k c Q S->AWP P nt k c Q S
 |.seq _ _,_,S,h=>Qm (g04 _ _ S h)
 |.block _ _,_,S,h=>Qr (g04 _ _ S h)
 |.region ..,_,_,h=>h
 |.skip,_,_,h=>h
 |.exit _,_,_,h=>h
 |.ret,_,_,h=>h
 |.cond ..,_,_,h=>h
 |.loop ..,_,_,h=>h
 |.rangeFunc ..,_,_,h=>h
 |.scope ..,_,_,h=>h
 |.label ..,_,_,h=>h
 |.goto ..,_,_,h=>h
 |.refuse _,_,_,h=>h
def x16:Code->Bool
 |.seq ..=>true
 |.block ..=>true
 |_=>false
def csA(P:Program)[Env P](T:TT)(nt k:Nat)(c:Code)(Q:Exit->AS->Prop)(S:AS):Option Prop:=match ctA P T nt k c Q S with
 |some X=>some X
 |none=>match x16 c with
  |true=>some (cwA P nt k c Q S)
  |false=>none
def M_(p:Prop):Prop:=p
@[simp] theorem M_eq (p:Prop):M_ p=p:=rfl
def s_{nt k:Nat}{c:Code}{Q:Exit->AS->Prop}{S:AS}{X:Prop}(x:M_ X)(h:csA prog T nt k c Q S=some X:=by rfl):AWP prog nt k c Q S:=by
 unfold csA at h;split at h
 ·rename_i Y hY;cases h;exact d0b tOk x c Q S hY
 split at h
 ·cases h;exact g04 c Q S x
 cases h
def w0p{w:World}{I:Nat->Prop}(h:EOK prog w I):Lib.TabIs prog w "internal/strconv.uint64pow10" .u64 Lib.pow10Tab:=by
 obtain⟨_,_,t,fr,rfl,hb⟩:=h 0 (·=Hu) (by first|exact yU.2 rfl|exact wO)
 unfold Lib.TabIs World.var?;rw[show prog.globalNamed "internal/strconv.uint64pow10" =some 0 by kernel_rfl]
 simp only[Option.bind_some,hb];rfl
def Gj{w:World}{I:Nat->Prop}(h:EOK prog w I):∃ev,w.cell? ⟨3,0,none⟩=some ev/\(ev= .nilIface\/∃te pe,ev= .iface te pe):=by obtain⟨_,_,t,fr,⟨m,rfl,hm⟩,hb⟩:=h 3 Fa (xo _ (xo _ wO));exact⟨m,by rw[Lib.cell_of_heap hb];rfl,hm⟩
def Jz{w:World}{I:Nat->Prop}(h:EOK prog w I):∃ev,w.cell? ⟨4,0,none⟩=some ev/\(ev= .nilIface\/∃te pe,ev= .iface te pe):=by obtain⟨_,_,t,fr,⟨m,rfl,hm⟩,hb⟩:=h 4 Fa (xo _ (xo _ (xo _ wO)));exact⟨m,by rw[Lib.cell_of_heap hb];rfl,hm⟩
end
section
open Go.Proofs
attribute [simp] T3 T4 T5 T9 T22 v14 T45 u1d u13 T2 u1v
def S6{α:Type}{c:Bool}{a b:α}(h:c=true):(if c=true then a else b)=a:=by rw[if_pos h]
def Ai{α:Type}{c:Bool}{a b:α}(h:c=false):(if c=true then a else b)=b:=by rw[if_neg (by rw[h];decide)]
@[simp] def encI (n:Int):AV:= .int .i64 n
abbrev AV.i (n:Int):AV:= .int .i64 n
abbrev W (n:Int):Int:=IntKind.i64.wrap n
def wrap_i64(n:Int)(h1: -9223372036854775808<=n)(h2:n<=9223372036854775807):IntKind.i64.wrap n=n:=by rw[IntKind.wrap_i64];omega
section
variable {P:Program} [Env P] {nt k:Nat} {S:AS} {ops:Array Oper} {o:Oper} {R:AS->Prop}
def pcL{wr:Bool}{f:FuncId}{xs args:List AV}{v:AV}(hc:PC P f args (λr=>r=v))(hR:R (S.putD o.dst v))(hw:We ops S o=some true:=by exact rfl)(h:Y5 S o.op=some (f,xs):=by exact rfl)(hp:xs.all AV.pure=true:=by simp)(he:xs.map AV.nrm=args:=by exact rfl)(hd:Ei nt o=true:=by exact rfl):Wx P nt k wr ops o S R:=
 Uu (Rf:=λr=>r=v) hw h hp (by rw[he];exact hc) hd (by intro r hr;subst hr;exact hR)
end
def pcB {f:FuncId} {fn:Func} {c:Code} {rs:List ResultVar} {n:Nat} {args:List AV} {R:AV->Prop} (hf:prog.funcs[f]?=some fn) (z1:fn.results=rs.toArray) (hn:fn.ntmps=n) (h:AWP prog n 0 c (d0w T rs λr H=>∃y,Tg H r=some y/\R y) ⟨Qe 0 args,[]⟩) (hb:fn.body=some c:=by exact rfl) (z8:(fn.name== "runtime.NumGoroutine")=false:=by exact rfl) (hl:Nat.ble args.length n=true:=by exact rfl):PC prog f args R:=by
 subst hn;exact f00 tOk hf hb z1 z8 (vy hl) h
def fcB {f:FuncId} {fn:Func} {c:Code} {rs:List ResultVar} {n:Nat} {args:List AV} {H:List AObj} {R:AV->List AObj->Prop} (hf:prog.funcs[f]?=some fn) (z1:fn.results=rs.toArray) (hn:fn.ntmps=n) (h:AWP prog n H.length c (d0w T rs R) ⟨Qe 0 args,H⟩) (hb:fn.body=some c:=by exact rfl) (z8:(fn.name== "runtime.NumGoroutine")=false:=by exact rfl) (hl:Nat.ble args.length n=true:=by exact rfl):FC prog f args H R:=by
 subst hn;exact f0k tOk hf hb z1 z8 (vy hl) h
section
variable {nt k:Nat} {S:AS} {ops:Array Oper} {o:Oper} {R:AS->Prop}
def apS {s x:Operand} {t e:TypeId} {it ei:TI} (ht:look T t=some it) (he:look T e=some ei) {sv xv:AV}
  (hR:match Ro S e ei.size sv,Y4 S.hp xv with
   |some (xs,H1),some ys=>Eg ei xs ys/\R (({ S with hp:=H1++[.arr e ei.size (xs++ys)] }:AS).putD o.dst (.sl S.hp.length ei.size 0 (xs.length+ys.length)))
   |_,_=>False)
  (hw:We ops S o=some true:=by exact rfl) (ho:o.op= .call ⟨.builtin .append,#[s,x],#[t,t]⟩:=by exact rfl) (z1:it.desc= .slice e:=by exact rfl) (hz:ei.zero.cells.size=ei.size:=by exact rfl) (z8:0<ei.size:=by decide) (za:0<ei.bytes:=by decide) (hs:rho S.sl s=some sv:=by exact rfl) (hx:rho S.sl x=some xv:=by exact rfl) (hd:Ei nt o=true:=by exact rfl):Wx prog nt k true ops o S R:=
 Jt tOk hw ho ht z1 he hz z8 za hs hx hd hR
end
section
variable {P:Program} [Env P] {nt k:Nat} {Q:Exit->AS->Prop}
end
section
variable {P:Program} [Env P] {nt k:Nat} {Q:Exit->AS->Prop}
end
def Plan.pv:Nat->Nat->Plan->Plan
 |_,0,p=>p
 |i,n+1,p=> .val i (Plan.pv (i+1) n p)
attribute [simp] Plan.pv
def wz(n:Nat)(h:n<9223372036854775807):IntKind.i64.wrap ((n:Int)+1)=n+1:=wrap_i64 _ (by omega) (by omega)
end
section
open Go.Proofs
structure Val where
 kind:Int
 num:Int
 text:List UInt8
deriving Inhabited,DecidableEq
@[simp] def encV (v:Val):AV:= .agg [.int .i64 v.kind,.int .i64 v.num,.str v.text]
def Ky(v:Val):Int:=if(v.kind==0 && (decide (v.num< -1099511627776) || decide (1099511627776<v.num)))=true then 2 else if(v.kind==1 && v.num != 0 && v.num != 1)=true then 2 else if decide ((64:Int)<v.text.length)=true then 13 else 0
def Xx(v:Val):PC prog 217 [encV v] (λr=>r= .i (Ky v)):=by
 refine pcB func217 results217 ntmps217 ?_;simp only[Qe];simp only[encV];repeat(refine s_ ?_;simp)
 refine Qb rfl (λh=>?_) (λh1=>?_)
 ·repeat(refine s_ ?_;simp)
  rw[Ky,S6 h]
 repeat(refine s_ ?_;simp)
 refine Qb rfl (λh=>?_) (λh2=>?_)
 ·repeat(refine s_ ?_;simp)
  rw[Ky,Ai h1,S6 h]
 repeat(refine s_ ?_;simp)
 refine Qb rfl (λh=>?_) (λh3=>?_)
 ·repeat(refine s_ ?_;simp)
  rw[Ky,Ai h1,Ai h2,S6 h]
 repeat(refine s_ ?_;simp)
 rw[Ky,Ai h1,Ai h2,Ai h3]
def Es(v:Val):Int:=if(v.kind==0 || v.kind==1)=true then(if(!v.text.isEmpty)=true then 3 else Ky v)else if(v.kind==2)=true then(if(v.num != 0)=true then 3 else Ky v)else 1
def Pk(v:Val):PC prog 195 [encV v] (λr=>r= .i (Es v)):=by
 refine pcB func195 results195 ntmps195 ?_;simp only[Qe];simp only[encV];repeat(refine s_ ?_;simp)
 refine Qb rfl (λh=>?_) (λh=>?_)
 ·repeat(refine s_ ?_;simp)
  refine Qg (b:=true) (by simp[h]) ?_;repeat(refine s_ ?_;simp)
  refine Qb rfl (λht=>?_) (λht=>?_)
  ·repeat(refine s_ ?_;simp)
   rw[Es,S6 (by simp[h]),S6 ht]
  repeat(refine s_ ?_;simp)
  refine pcL (Xx v) ?_;simp;repeat(refine s_ ?_;simp)
  rw[Es,S6 (by simp[h]),Ai ht]
 repeat(refine s_ ?_;simp)
 refine Qb rfl (λh1=>?_) (λh1=>?_)
 ·repeat(refine s_ ?_;simp)
  refine Qb rfl (λht=>?_) (λht=>?_)
  ·repeat(refine s_ ?_;simp)
   rw[Es,S6 (by simp[h1]),S6 ht]
  repeat(refine s_ ?_;simp)
  refine pcL (Xx v) ?_;simp;repeat(refine s_ ?_;simp)
  rw[Es,S6 (by simp[h1]),Ai ht]
 repeat(refine s_ ?_;simp)
 refine Qb rfl (λh2=>?_) (λh2=>?_)
 ·repeat(refine s_ ?_;simp)
  refine Qb rfl (λhn=>?_) (λhn=>?_)
  ·repeat(refine s_ ?_;simp)
   rw[Es,Ai (by simp[h,h1]),S6 h2,S6 hn]
  repeat(refine s_ ?_;simp)
  refine pcL (Xx v) ?_;simp;repeat(refine s_ ?_;simp)
  rw[Es,Ai (by simp[h,h1]),S6 h2,Ai hn]
 repeat(refine s_ ?_;simp)
 rw[Es,Ai (by simp[h,h1]),Ai h2]
end
section
open Go.Proofs
structure Ev where
 source:Int
 seq:Int
 type:Int
 time:Int
 values:List Val
deriving Inhabited,DecidableEq
@[simp] def encE (e:Ev):AV:= .agg [.int .i64 e.source,.int .i64 e.seq,.int .i64 e.type,.int .i64 e.time,.list (e.values.map encV)]
end
def zig(n:Int):Nat:=if 0<=n then(2 * n).toNat else(-2 * n - 1).toNat
def zag(u:Nat):Int:=if u % 2=0 then((u / 2:Nat):Int)else -((u / 2:Nat):Int) - 1
def d06(n:Int):zag (zig n)=n:=by unfold zag zig;split<;>split<;>omega
def q0m:Nat->Nat->List UInt8
 |0,_=>[]
 |k+1,u=>if u<128 then [UInt8.ofNat u]else UInt8.ofNat (u % 128+128)::q0m k (u / 128)
def x1w(u:Nat):List UInt8:=q0m 10 u
def Ws(n:Int):List UInt8:=x1w (zig n)
def Nx:Nat->Nat->Nat->List UInt8->Option (Nat×List UInt8)
 |0,_,_,_=>none
 |_+1,_,_,[]=>none
 |k+1,i,u,c::r=>if(0<i/\c.toNat=0)\/(i=9/\1<c.toNat)then none
   else if c.toNat<128 then some (u+c.toNat % 128 * 2 ^ (7 * i),r)else Nx k (i+1) (u+c.toNat % 128 * 2 ^ (7 * i)) r
def c0j(s:List UInt8):Option (Int×List UInt8):=(Nx 10 0 0 s).map λp=>(zag p.1,p.2)
def q0y:∀(k i u v:Nat) (r:List UInt8),i+k=10->(0<i->0<u)->u<2 ^ (64 - 7 * i)->Nx k i v (q0m k u++r)=some (v+u * 2 ^ (7 * i),r)
 |0,i,u,v,r,hi,_,hu=>by
  have:i=10:=by omega
  subst this;simp at hu;rename_i h;have:=h (by omega);omega
 |k+1,i,u,v,r,hi,h0,hu=>by
  rw[q0m];by_cases h:u<128
  ·rw[if_pos h,xL,wb,Nx];have hn:(UInt8.ofNat u).toNat=u:=by simp;omega
   rw[hn];have h9:¬((0<i/\u=0)\/(i=9/\1<u)):=by
    rintro(⟨h1,h2⟩|⟨h1,h2⟩)
    ·have:=h0 h1;omega
    subst h1;simp at hu;omega
   rw[if_neg h9,if_pos h,wa h]
  rw[if_neg h,xL,Nx];have hn:(UInt8.ofNat (u % 128+128)).toNat=u % 128+128:=by simp;omega
  rw[hn];have z1:i≠9:=by intro e;subst e;simp at hu;omega
  have h9:¬((0<i/\u % 128+128=0)\/(i=9/\1<u % 128+128)):=by
   rintro(⟨_,h2⟩|⟨h1,_⟩)
   ·omega
   exact z1 h1
  rw[if_neg h9,if_neg (by omega),Nat.add_mod_right,Nat.mod_mod];have hp:2 ^ (64 - 7 * i)=128 * 2 ^ (64 - 7 * (i+1)):=by rw[show 64 - 7 * i=7+(64 - 7 * (i+1)) by omega,ui]
  have z8:u / 128<2 ^ (64 - 7 * (i+1)):=by rw[Nat.div_lt_iff_lt_mul (by omega),wm];omega
  rw[q0y k (i+1) (u / 128) _ r (by omega) (λ_=>by omega) z8]
  congr 2
  rw[show 7 * (i+1)=7 * i+7 by omega,ui,xK]
  congr 1
  have h2:u / 128 * (2 ^ (7 * i) * 2 ^ 7)=(128 * (u / 128)) * 2 ^ (7 * i):=by rw[show(2:Nat) ^ 7=128 from rfl,wm (2 ^ (7 * i)) 128,<-Nat.mul_assoc,wm (u / 128) 128]
  rw[h2,<-z_]
  congr 1
  omega
def g08(n:Int)(h1: -9223372036854775808<=n)(h2:n<=9223372036854775807)(r:List UInt8):c0j (Ws n++r)=some (n,r):=by
 unfold c0j Ws x1w;have hz:zig n<2 ^ 64:=by unfold zig;split<;>simp<;>omega
 rw[q0y 10 0 (zig n) 0 r rfl (λh=>absurd h (by omega)) (by simpa using hz)];simp[d06]
def V1:∀(k u:Nat),(q0m k u).length<=k
 |0,_=>by simp[q0m]
 |k+1,u=>by
  rw[q0m];split
  ·simp
  have:=V1 k (u / 128);simp;omega
def Pd(n:Int):(Ws n).length<=10:=V1 _ _
def Vp(n:Int):0<(Ws n).length:=by unfold Ws x1w;rw[q0m];split<;>simp
structure Dc where
 s:List UInt8
 e:Int
deriving Inhabited,DecidableEq
def Dc.fail(d:Dc)(x:Int):Dc:=if d.e=0 then⟨d.s,x⟩else d
def bd{α β:Type}(F:Dc->α×Dc)(G:α->Dc->β×Dc)(d:Dc):β×Dc:=G (F d).1 (F d).2
def rtn{α:Type}(x:α)(d:Dc):α×Dc:=(x,d)
def Rc{α:Type}(F:Dc->α×Dc):Nat->Dc->List α×Dc
 |0,d=>([],d)
 |n+1,d=>if d.e≠0 then([],d)else((F d).1::(Rc F n (F d).2).1,(Rc F n (F d).2).2)
def Rt{α:Type}(F:Dc->α×Dc)(enc:α->List UInt8)(ok:α->Prop):Prop:=∀x,ok x->∀r,F ⟨enc x++r,0⟩=(x,⟨r,0⟩)
def Rt.loop{α:Type}{F:Dc->α×Dc}{enc:α->List UInt8}{ok:α->Prop}(h:Rt F enc ok):∀(l:List α),(∀x∈l,ok x)->∀r,Rc F l.length ⟨l.flatMap enc++r,0⟩=(l,⟨r,0⟩)
 |[],_,r=>rfl
 |x::l,hl,r=>by rw[yG,Rc,if_neg (λh=>h rfl),wd,yH,h x (hl x (by simp)),Rt.loop h l (λy hy=>hl y (by simp[hy]))]
def i64(n:Int):Prop:= -9223372036854775808<=n/\n<=9223372036854775807
def pI(d:Dc):Int×Dc:=if d.e≠0 then(0,d)else match c0j d.s with
 |some (n,r)=>(n,⟨r,0⟩)
 |none=>(0,⟨d.s,26⟩)
def Tx:Rt pI Ws i64:=λn hn r=>by rw[pI,if_neg (λh=>h rfl),g08 n hn.1 hn.2]
def pL{α:Type}(F:Dc->α×Dc):Dc->List α×Dc:=bd pI λn d=>if n<0\/4096<n then Rc F n.toNat (d.fail 5)else Rc F n.toNat d
def Rn{α:Type}(enc:α->List UInt8)(l:List α):List UInt8:=Ws l.length++l.flatMap enc
def Rt.list{α:Type}{F:Dc->α×Dc}{enc:α->List UInt8}{ok:α->Prop}(h:Rt F enc ok):Rt (pL F) (Rn enc) (λl=>l.length<=4096/\∀x∈l,ok x):=λl hl r=>by unfold pL bd Rn;rw[yH,Tx (l.length:Int) ⟨by omega,by omega⟩];simp only;rw[if_neg (by omega),xa,Rt.loop h l hl.2]
def Sq:Dc->List UInt8×Dc:=bd pI λn d=>
 let d':=if n<0\/64<n then d.fail 13 else if(d.s.length:Int)<n then d.fail 26 else d
 if d'.e≠0 then([],d')else(d'.s.take n.toNat,⟨d'.s.drop n.toNat,d'.e⟩)
def c0i(s:List UInt8):List UInt8:=Ws s.length++s
def g0p:Rt Sq c0i (λs=>s.length<=64):=λs hs r=>by
 unfold Sq bd c0i;rw[yH,Tx (s.length:Int) ⟨by omega,by omega⟩];have h1:¬((s.length:Int)<0\/64<(s.length:Int)):=by omega
 have h2:¬(((s++r).length:Int)<s.length):=by simp;omega
 simp only[if_neg h1,if_neg h2];rw[if_neg (λh=>h rfl),xa,ua rfl,ub rfl]
def g06(k:Int)(d:Dc):Dc:=if k<0\/2<k then d.fail 1 else d
def Ch(v:Val)(d:Dc):Val×Dc:=(v,if d.e=0 then d.fail (Es v)else d)
def Lr(k:Int)(d:Dc):Val×Dc:=if d.e=0/\k=2 then bd Sq (λt=>Ch ⟨k,0,t⟩) d else bd pI (λn=>Ch ⟨k,n,[]⟩) d
def Zs:Dc->Val×Dc:=bd pI λk d=>Lr k (g06 k d)
def E6{α β:Type}{F:Dc->α×Dc}{enc:α->List UInt8}{ok:α->Prop}(h:Rt F enc ok)(G:α->Dc->β×Dc){x:α}(hx:ok x)(r:List UInt8):bd F G ⟨enc x++r,0⟩=G x ⟨r,0⟩:=by unfold bd;rw[h x hx]
def Yw(v:Val):List UInt8:=Ws v.kind++(if v.kind=2 then c0i v.text else Ws v.num)
def w0r{v:Val}(h:Es v=0):(v.kind=2/\v.num=0/\v.text.length<=64)\/((v.kind=0\/v.kind=1)/\v.text=[]/\ -1099511627776<=v.num/\v.num<=1099511627776):=by
 obtain⟨k,n,t⟩:=v;unfold Es Ky at h;simp only at h |-;by_cases h1:(k==0 || k==1)=true
 ·rw[if_pos h1]at h;have hk:k=0\/k=1:=by simpa using h1
  right;cases t with
  |cons c r=>simp at h
  |nil=>
   refine⟨hk,rfl,?_⟩;rcases hk with rfl|rfl
   ·simp at h;omega
   simp at h;omega
 rw[if_neg h1]at h;by_cases h2:(k==2)=true
 ·rw[if_pos h2]at h;have hk:k=2:=by simpa using h2
  left;by_cases h3:(n != 0)=true
  ·rw[if_pos h3]at h;cases h
  rw[if_neg h3]at h;subst hk;simp at h h3;exact⟨rfl,h3,by omega⟩
 rw[if_neg h2]at h;cases h
def w1t:Rt Zs Yw (λv=>Es v=0):=λv hv r=>by
 have hc:=w0r hv;have hk:i64 v.kind:=by unfold i64;rcases hc with⟨h,_⟩|⟨h,_⟩<;>omega
 have z1:¬(v.kind<0\/2<v.kind):=by rcases hc with⟨h,_⟩|⟨h,_⟩<;>omega
 have hf:∀r,Ch v ⟨r,0⟩=(v,⟨r,0⟩):=λr=>by unfold Ch;rw[if_pos rfl,hv];rfl
 unfold Zs Yw;rw[yH,E6 Tx _ hk,g06,if_neg z1,Lr];rcases hc with⟨h1,h2,h3⟩|⟨h1,h2,h3⟩
 ·have:(⟨v.kind,0,v.text⟩:Val)=v:=by rw[<-h2]
  rw[if_pos ⟨rfl,h1⟩,if_pos h1,E6 g0p _ h3,this,hf]
 have h5:v.kind≠2:=by omega
 have:(⟨v.kind,v.num,[]⟩:Val)=v:=by rw[<-h2]
 rw[if_neg (λh=>h5 h.2),if_neg h5,E6 Tx _ (show i64 v.num from⟨by omega,by omega⟩),this,hf]
section
structure Rf where
 time:Int
 source:Int
 seq:Int
deriving Inhabited,DecidableEq
structure Bnd where
 var:Int
 ref:Rf
deriving Inhabited,DecidableEq
structure Stt where
 scope:Int
 time:Int
deriving Inhabited,DecidableEq
structure Cfg where
 state:Int
 binds:List Bnd
 starts:List Stt
deriving Inhabited,DecidableEq
structure Eng where
 mark:Int
 waiting:List Ev
 runs:List Cfg
 held:List Ev
deriving Inhabited,DecidableEq
structure Pnt where
 seq:Int
 time:Int
deriving Inhabited,DecidableEq
structure Trk where
 next:Int
 beyond:List Int
 points:List Pnt
 mark:Int
deriving Inhabited,DecidableEq
structure Rdr where
 source:Int
 offset:Int
 trk:Trk
deriving Inhabited,DecidableEq
structure Kyd where
 query:Int
 key:Val
 eng:Eng
deriving Inhabited,DecidableEq
structure Opr where
 marks:List Int
 engines:List Kyd
deriving Inhabited,DecidableEq
structure Snp where
 number:Int
 readers:List Rdr
 operators:List Opr
deriving Inhabited,DecidableEq
abbrev DD (α:Type):=Dc->α×Dc
structure How where
 L:{α:Type}->DD α->DD (List α)
 V:DD Val
variable (h:How)
def How.ev:DD Ev:=bd pI λa=>bd pI λb=>bd pI λc=>bd pI λt=>bd (h.L h.V) λvs=>rtn ⟨a,b,c,t,vs⟩
def How.bnd:DD Bnd:=bd pI λv=>bd pI λa=>bd pI λb=>bd pI λc=>rtn ⟨v,⟨a,b,c⟩⟩
def How.stt:DD Stt:=bd pI λa=>bd pI λb=>rtn ⟨a,b⟩
def How.cfg:DD Cfg:=bd pI λa=>bd (h.L How.bnd) λb=>bd (h.L How.stt) λc=>rtn ⟨a,b,c⟩
def How.eng:DD Eng:=bd pI λa=>bd (h.L h.ev) λb=>bd (h.L h.cfg) λc=>bd (h.L h.ev) λd=>rtn ⟨a,b,c,d⟩
def How.pnt:DD Pnt:=bd pI λa=>bd pI λb=>rtn ⟨a,b⟩
def How.trk:DD Trk:=bd pI λa=>bd (h.L pI) λb=>bd (h.L How.pnt) λc=>bd pI λd=>rtn ⟨a,b,c,d⟩
def How.rdr:DD Rdr:=bd pI λa=>bd pI λb=>bd h.trk λc=>rtn ⟨a,b,c⟩
def How.kyd:DD Kyd:=bd pI λa=>bd h.V λb=>bd h.eng λc=>rtn ⟨a,b,c⟩
def How.opr:DD Opr:=bd (h.L pI) λa=>bd (h.L h.kyd) λb=>rtn ⟨a,b⟩
def How.snp:DD Snp:=bd pI λa=>bd (h.L h.rdr) λb=>bd (h.L h.opr) λc=>rtn ⟨a,b,c⟩
def pH:How:=⟨pL,Zs⟩
def Sz(e:Ev):List UInt8:=Ws e.source++(Ws e.seq++(Ws e.type++(Ws e.time++Rn Yw e.values)))
def Pu(b:Bnd):List UInt8:=Ws b.var++(Ws b.ref.time++(Ws b.ref.source++Ws b.ref.seq))
def P1(s:Stt):List UInt8:=Ws s.scope++Ws s.time
def Po(c:Cfg):List UInt8:=Ws c.state++(Rn Pu c.binds++Rn P1 c.starts)
def Pr(x:Eng):List UInt8:=Ws x.mark++(Rn Sz x.waiting++(Rn Po x.runs++Rn Sz x.held))
def I9(p:Pnt):List UInt8:=Ws p.seq++Ws p.time
def Gp(t:Trk):List UInt8:=Ws t.next++(Rn Ws t.beyond++(Rn I9 t.points++Ws t.mark))
def Uo(r:Rdr):List UInt8:=Ws r.source++(Ws r.offset++Gp r.trk)
def Ig(k:Kyd):List UInt8:=Ws k.query++(Yw k.key++Pr k.eng)
def Ur(o:Opr):List UInt8:=Rn Ws o.marks++Rn Ig o.engines
def W5(s:Snp):List UInt8:=Ws s.number++(Rn Uo s.readers++Rn Ur s.operators)
def okL{α:Type}(ok:α->Prop)(l:List α):Prop:=l.length<=4096/\∀x∈l,ok x
def okV(v:Val):Prop:=Es v=0
def y1e(e:Ev):Prop:=i64 e.source/\i64 e.seq/\i64 e.type/\i64 e.time/\okL okV e.values
def u06(b:Bnd):Prop:=i64 b.var/\i64 b.ref.time/\i64 b.ref.source/\i64 b.ref.seq
def v0p(s:Stt):Prop:=i64 s.scope/\i64 s.time
def d09(c:Cfg):Prop:=i64 c.state/\okL u06 c.binds/\okL v0p c.starts
def f0i(x:Eng):Prop:=i64 x.mark/\okL y1e x.waiting/\okL d09 x.runs/\okL y1e x.held
def k0n(p:Pnt):Prop:=i64 p.seq/\i64 p.time
def f0b(t:Trk):Prop:=i64 t.next/\okL i64 t.beyond/\okL k0n t.points/\i64 t.mark
def g05(r:Rdr):Prop:=i64 r.source/\i64 r.offset/\f0b r.trk
def f0v(k:Kyd):Prop:=i64 k.query/\okV k.key/\f0i k.eng
def g09(o:Opr):Prop:=okL i64 o.marks/\okL f0v o.engines
def c0x(s:Snp):Prop:=i64 s.number/\okL g05 s.readers/\okL g09 s.operators
theorem T1{α:Type}{F:DD α}{enc:α->List UInt8}{ok:α->Prop}(h:Rt F enc ok):Rt (pL F) (Rn enc) (okL ok):=Rt.list h
theorem u1a:Rt Zs Yw okV:=w1t
theorem q1a:Rt pH.ev Sz y1e:=λe ⟨h1,h2,h3,h4,h5⟩ r=>by simp only[How.ev,pH,Sz,yH];rw[E6 Tx _ h1,E6 Tx _ h2,E6 Tx _ h3,E6 Tx _ h4,E6 (T1 u1a) _ h5];rfl
theorem c05:Rt How.bnd Pu u06:=λe ⟨h1,h2,h3,h4⟩ r=>by simp only[How.bnd,Pu,yH];rw[E6 Tx _ h1,E6 Tx _ h2,E6 Tx _ h3,E6 Tx _ h4];rfl
theorem w1l:Rt How.stt P1 v0p:=λe ⟨h1,h2⟩ r=>by simp only[How.stt,P1,yH];rw[E6 Tx _ h1,E6 Tx _ h2];rfl
theorem q18:Rt How.pnt I9 k0n:=λe ⟨h1,h2⟩ r=>by simp only[How.pnt,I9,yH];rw[E6 Tx _ h1,E6 Tx _ h2];rfl
theorem w13:Rt pH.cfg Po d09:=λe ⟨h1,h2,h3⟩ r=>by simp only[How.cfg,pH,Po,yH];rw[E6 Tx _ h1,E6 (T1 c05) _ h2,E6 (T1 w1l) _ h3];rfl
theorem q1l:Rt pH.eng Pr f0i:=λe ⟨h1,h2,h3,h4⟩ r=>by simp only[How.eng,Pr,yH];rw[E6 Tx _ h1,E6 (F:=pH.L pH.ev) (T1 q1a) _ h2,E6 (F:=pH.L pH.cfg) (T1 w13) _ h3,E6 (F:=pH.L pH.ev) (T1 q1a) _ h4];rfl
theorem z1s:Rt pH.trk Gp f0b:=λe ⟨h1,h2,h3,h4⟩ r=>by simp only[How.trk,pH,Gp,yH];rw[E6 Tx _ h1,E6 (T1 Tx) _ h2,E6 (T1 q18) _ h3,E6 Tx _ h4];rfl
theorem c0w:Rt pH.rdr Uo g05:=λe ⟨h1,h2,h3⟩ r=>by simp only[How.rdr,Uo,yH];rw[E6 Tx _ h1,E6 Tx _ h2,E6 z1s _ h3];rfl
theorem q1y:Rt pH.kyd Ig f0v:=λe ⟨h1,h2,h3⟩ r=>by simp only[How.kyd,Ig,yH];rw[E6 Tx _ h1,E6 (F:=pH.V) u1a _ h2,E6 q1l _ h3];rfl
theorem c0k:Rt pH.opr Ur g09:=λe ⟨h1,h2⟩ r=>by simp only[How.opr,Ur,yH];rw[E6 (F:=pH.L pI) (T1 Tx) _ h1,E6 (F:=pH.L pH.kyd) (T1 q1y) _ h2];rfl
theorem q1d:Rt pH.snp W5 c0x:=λe ⟨h1,h2,h3⟩ r=>by simp only[How.snp,W5,yH];rw[E6 Tx _ h1,E6 (F:=pH.L pH.rdr) (T1 c0w) _ h2,E6 (F:=pH.L pH.opr) (T1 c0k) _ h3];rfl
end
def orE(a b:Int):Int:=if a≠0 then a else b
def Wj{α:Type}(f:α->Int):List α->Int
 |[]=>0
 |x::l=>orE (f x) (Wj f l)
def R7{α:Type}(f:α->Int)(l:List α):Int:=if 4096<l.length then 5 else Wj f l
def noE{α:Type}(_:α):Int:=0
def Cb(e:Ev):Int:=R7 Es e.values
def Vq(c:Cfg):Int:=orE (R7 noE c.binds) (R7 noE c.starts)
def Vb(x:Eng):Int:=orE (R7 Cb x.waiting) (orE (R7 Vq x.runs) (R7 Cb x.held))
def j0y(t:Trk):Int:=orE (R7 noE t.beyond) (R7 noE t.points)
def Si(r:Rdr):Int:=j0y r.trk
def Gw(k:Kyd):Int:=orE (Es k.key) (Vb k.eng)
def Pf(o:Opr):Int:=orE (R7 noE o.marks) (R7 Gw o.engines)
def Ih(s:Snp):Int:=orE (R7 Si s.readers) (R7 Pf s.operators)
def Yl{a b:Int}(h:orE a b=0):a=0/\b=0:=by
 unfold orE at h;split at h
 ·rename_i h1;exact absurd h h1
 rename_i h1;exact⟨by simpa using h1,h⟩
def Fv{α:Type}{f:α->Int}:∀ {l:List α},Wj f l=0->∀x∈l,f x=0
 |[],_,x,hx=>by simp at hx
 |y::l,h,x,hx=>by
  obtain⟨h1,h2⟩:=Yl h;rcases yZ.1 hx with rfl|hx
  ·exact h1
  exact Fv h2 x hx
def Tv{α:Type}{f:α->Int}{l:List α}(h:R7 f l=0):l.length<=4096/\∀x∈l,f x=0:=by
 unfold R7 at h;split at h
 ·cases h
 exact⟨by omega,Fv h⟩
def iEv(e:Ev):Prop:=i64 e.source/\i64 e.seq/\i64 e.type/\i64 e.time
def x1f(c:Cfg):Prop:=i64 c.state/\(∀x∈c.binds,u06 x)/\∀x∈c.starts,v0p x
def u1e(x:Eng):Prop:=i64 x.mark/\(∀e∈x.waiting,iEv e)/\(∀c∈x.runs,x1f c)/\∀e∈x.held,iEv e
def v18(t:Trk):Prop:=i64 t.next/\(∀n∈t.beyond,i64 n)/\(∀p∈t.points,k0n p)/\i64 t.mark
def v1c(r:Rdr):Prop:=i64 r.source/\i64 r.offset/\v18 r.trk
def u1i(k:Kyd):Prop:=i64 k.query/\u1e k.eng
def v1w(o:Opr):Prop:=(∀n∈o.marks,i64 n)/\∀k∈o.engines,u1i k
def y1g(s:Snp):Prop:=i64 s.number/\(∀r∈s.readers,v1c r)/\∀o∈s.operators,v1w o
def c0o{e:Ev}(h:Cb e=0)(hi:iEv e):y1e e:=⟨hi.1,hi.2.1,hi.2.2.1,hi.2.2.2,Tv h⟩
def q1b{c:Cfg}(h:Vq c=0)(hi:x1f c):d09 c:=by obtain⟨h1,h2⟩:=Yl h;exact⟨hi.1,⟨(Tv h1).1,hi.2.1⟩,⟨(Tv h2).1,hi.2.2⟩⟩
def Am{α:Type}{f:α->Int}{i ok:α->Prop}(hf:∀x,f x=0->i x->ok x){l:List α}(h:R7 f l=0)(hi:∀x∈l,i x):okL ok l:=
 ⟨(Tv h).1,λx hx=>hf x ((Tv h).2 x hx) (hi x hx)⟩
def z1a{x:Eng}(h:Vb x=0)(hi:u1e x):f0i x:=by obtain⟨h1,h2⟩:=Yl h;obtain⟨h2,h3⟩:=Yl h2;exact⟨hi.1,Am (λ_=>c0o) h1 hi.2.1,Am (λ_=>q1b) h2 hi.2.2.1,Am (λ_=>c0o) h3 hi.2.2.2⟩
def w10{t:Trk}(h:j0y t=0)(hi:v18 t):f0b t:=by obtain⟨h1,h2⟩:=Yl h;exact⟨hi.1,⟨(Tv h1).1,hi.2.1⟩,⟨(Tv h2).1,hi.2.2.1⟩,hi.2.2.2⟩
def w1i{r:Rdr}(h:Si r=0)(hi:v1c r):g05 r:=⟨hi.1,hi.2.1,w10 h hi.2.2⟩
def q17{k:Kyd}(h:Gw k=0)(hi:u1i k):f0v k:=by obtain⟨h1,h2⟩:=Yl h;exact⟨hi.1,h1,z1a h2 hi.2⟩
def q1k{o:Opr}(h:Pf o=0)(hi:v1w o):g09 o:=by obtain⟨h1,h2⟩:=Yl h;exact⟨⟨(Tv h1).1,hi.1⟩,Am (λ_=>q17) h2 hi.2⟩
def q1i{s:Snp}(h:Ih s=0)(hi:y1g s):c0x s:=by obtain⟨h1,h2⟩:=Yl h;exact⟨hi.1,Am (λ_=>w1i) h1 hi.2.1,Am (λ_=>q1k) h2 hi.2.2⟩
def Ft(h:Nat)(c:UInt8):Nat:=(h ^^^ c.toNat) * 16777619 % 4294967296
def Yu(s:List UInt8):Nat:=s.foldl Ft 2166136261
def Jw(s:List UInt8):Yu s<4294967296:=by
 unfold Yu;rcases List.eq_nil_or_concat s with rfl|⟨t,c,rfl⟩
 ·rw[wW];omega
 rw[List.concat_eq_append,List.foldl_append,List.foldl_cons,wW,Ft];exact uw _ (by omega)
def X4(c:Nat):List UInt8:=[UInt8.ofNat (c / 16777216),UInt8.ofNat (c / 65536),UInt8.ofNat (c / 256),UInt8.ofNat c]
def Fu(out:List UInt8):List UInt8:=out++X4 (Yu out)
def Qy(s:Snp):List UInt8×Int:=if Ih s≠0 then([],Ih s)else if 1048572<(W5 s).length then([],13)else(Fu (W5 s),0)
def Jv(s:List UInt8):Dc:=if 1048576<s.length then⟨[],13⟩else if s.length<4 then⟨[],26⟩else
 if X4 (Yu (s.take (s.length - 4)))≠s.drop (s.length - 4)then⟨[],26⟩else⟨s.take (s.length - 4),0⟩
def Ib:Snp:=⟨0,[],[]⟩
def Jb(F:DD Snp)(s:List UInt8):Snp×Int:=
 if(Jv s).e≠0 then(Ib,(Jv s).e)else
 if(F (Jv s)).2.e≠0 then(Ib,(F (Jv s)).2.e)else if(F (Jv s)).2.s≠[]then(Ib,3)else((F (Jv s)).1,0)
def Wc:List UInt8->Snp×Int:=Jb pH.snp
def q0r(out:List UInt8)(h:out.length<=1048572):Jv (Fu out)=⟨out,0⟩:=by
 have hl:(Fu out).length=out.length+4:=by simp[Fu,X4]
 have ht:(Fu out).take out.length=out:=by simp[Fu]
 have hd:(Fu out).drop out.length=X4 (Yu out):=by simp[Fu]
 unfold Jv;rw[hl,if_neg (by omega),if_neg (by omega),Nat.add_sub_cancel,ht,hd,if_neg (λh=>h rfl)]
def decode_encode{s:Snp}(h:(Qy s).2=0)(hi:y1g s):Wc (Qy s).1=(s,0):=by
 unfold Qy at h |-;by_cases h1:Ih s≠0
 ·rw[if_pos h1]at h;exact absurd h h1
 rw[if_neg h1]at h |-;by_cases h2:1048572<(W5 s).length
 ·rw[if_pos h2]at h;cases h
 rw[if_neg h2];have hk:=q1i (by simpa using h1) hi;have hr:=q1d s hk [];rw[xM]at hr;unfold Wc Jb;simp only;rw[q0r _ (by omega),if_neg (λh=>h rfl),hr];simp
section
open Go.Proofs
attribute [simp] x1m u1k x1g u1h v1y u1w u1j T50 T52 x1c T58 T61 v19 T74 u1f v15 T48 T53 T56 T59 T23 k1b u15 u1t u12
@[simp] def avBnd (b:Bnd):AV:= .agg [.i b.var,.i b.ref.time,.i b.ref.source,.i b.ref.seq]
@[simp] def avRf (r:Rf):AV:= .agg [.i r.time,.i r.source,.i r.seq]
@[simp] def avStt (s:Stt):AV:= .agg [.i s.scope,.i s.time]
@[simp] def avCfg (c:Cfg):AV:= .agg [.i c.state,.list (c.binds.map avBnd),.list (c.starts.map avStt)]
@[simp] def avEng (x:Eng):AV:= .agg [.i x.mark,.list (x.waiting.map encE),.list (x.runs.map avCfg),.list (x.held.map encE)]
@[simp] def avPnt (p:Pnt):AV:= .agg [.i p.seq,.i p.time]
@[simp] def avTrk (t:Trk):AV:= .agg [.i t.next,.list (t.beyond.map encI),.list (t.points.map avPnt),.i t.mark]
@[simp] def avRdr (r:Rdr):AV:= .agg [.i r.source,.i r.offset,.i r.trk.next,.list (r.trk.beyond.map encI),.list (r.trk.points.map avPnt),.i r.trk.mark]
@[simp] def avKyd (k:Kyd):AV:= .agg [.i k.query,.i k.key.kind,.i k.key.num,.str k.key.text,.i k.eng.mark,.list (k.eng.waiting.map encE),.list (k.eng.runs.map avCfg),.list (k.eng.held.map encE)]
@[simp] def avOpr (o:Opr):AV:= .agg [.list (o.marks.map encI),.list (o.engines.map avKyd)]
@[simp] def avSnp (s:Snp):AV:= .agg [.i s.number,.list (s.readers.map avRdr),.list (s.operators.map avOpr)]
end
section
open Go.Proofs
structure Att where
 num:Int
 rds:List Rdr
 ops:List Opr
 hv:List Bool
deriving Inhabited,DecidableEq
structure Crd where
 next:Int
 atts:List Att
 dur:Int
deriving Inhabited,DecidableEq
def cAt(a:Att):List AV:=[.i a.num,.list (a.rds.map avRdr),.list (a.ops.map avOpr),.list (a.hv.map AV.bool)]
@[simp] def encAt (a:Att):AV:= .agg [.i a.num,.list (a.rds.map avRdr),.list (a.ops.map avOpr),.list (a.hv.map AV.bool)]
@[simp] def encCr (c:Crd):AV:= .agg [.i c.next,.list (c.atts.map encAt),.i c.dur]
def R8:Opr:=⟨[],[]⟩
structure AOk (R W:Nat) (lo hi:Int) (pv:Option Att) (a:Att):Prop where
 lo:(match pv with|some b=>b.num|none=>lo)<a.num
 hi:a.num<hi
 rd:a.rds.length=R
 hvl:a.hv.length=W
 opl:a.ops.length=W
 emp:∀(j:Nat) (o:Opr),a.ops[j]?=some o->a.hv[j]?=some false->o=R8
 ord:∀b,pv=some b->∀(j:Nat),a.hv[j]?=some true->b.hv[j]?=some true
def Xb(R W:Nat)(lo hi:Int):Option Att->List Att->Prop
 |_,[]=>True
 |pv,a::l=>AOk R W lo hi pv a/\Xb R W lo hi (some a) l
structure WfC (R W:Nat) (c:Crd):Prop where
 nx1:1<=c.next
 nx2:c.next<=1099511627776
 du1:0<=c.dur
 du2:c.dur<c.next
 len:c.atts.length<=256
 r1:1<=R
 r2:R<=8
 w1:1<=W
 w2:W<=8
 all:Xb R W c.dur c.next none c.atts
def Ao(l:List Att):Nat->Option Att
 |0=>none
 |i+1=>l[i]?
def Xb.get{R W:Nat}{lo hi:Int}:∀ {l:List Att} {pv:Option Att} {i:Nat} {a:Att},Xb R W lo hi pv l->l[i]?=some a->AOk R W lo hi (match i with|0=>pv|i+1=>l[i]?) a
 |[],_,_,_,_,h=>by simp at h
 |b::l,pv,0,a,h,e=>by simp at e;subst e;exact h.1
 |b::l,pv,i+1,a,h,e=>by
  have e':l[i]?=some a:=by simpa using e
  have:=h.2.get e';cases i with
  |zero=>exact this
  |succ i=>simpa using this
def WfC.get{R W:Nat}{c:Crd}(h:WfC R W c){i:Nat}{a:Att}(e:c.atts[i]?=some a):AOk R W c.dur c.next (Ao c.atts i) a:=by have:=h.all.get e;cases i<;>exact this
def Xb.of{R W:Nat}{lo hi:Int}:∀ {l:List Att} {pv:Option Att},(∀i a,l[i]?=some a->AOk R W lo hi (match i with|0=>pv|i+1=>l[i]?) a)->Xb R W lo hi pv l
 |[],_,_=>trivial
 |b::l,pv,h=>⟨h 0 b rfl,Xb.of λi a e=>by
   have:=h (i+1) a (by simpa using e);cases i with
   |zero=>exact this
   |succ i=>simpa using this⟩
def WfC.of {R W:Nat} {c:Crd} (h1:1<=c.next) (h2:c.next<=1099511627776) (h3:0<=c.dur) (h4:c.dur<c.next) (h5:c.atts.length<=256) (h6:1<=R) (h7:R<=8) (h8:1<=W) (h9:W<=8)
  (h:∀i a,c.atts[i]?=some a->AOk R W c.dur c.next (Ao c.atts i) a):WfC R W c:=
 ⟨h1,h2,h3,h4,h5,h6,h7,h8,h9,Xb.of λi a e=>by
  have:=h i a e;cases i<;>exact this⟩
def Rg(c:Crd)(rs:List Rdr)(w:Nat):Crd:=⟨c.next+1,c.atts++[⟨c.next,rs,zG w R8,zG w false⟩],c.dur⟩
def Gs(a:Att)(w:Nat)(o:Opr):Att:=⟨a.num,a.rds,a.ops.set w o,a.hv.set w true⟩
def d0z(c:Crd)(k w:Nat)(o:Opr):Crd:=match c.atts[k]? with
 |some a=>⟨c.next,c.atts.set k (Gs a w o),c.dur⟩
 |none=>c
def z1v(c:Crd)(n:Int):Crd:=⟨c.next,c.atts.drop 1,n⟩
def WfC.asc{R W:Nat}{c:Crd}(h:WfC R W c){i j:Nat}{a b:Att}(z8:i<j)(ha:c.atts[i]?=some a)(hb:c.atts[j]?=some b):a.num<b.num:=by
 induction j generalizing b with
 |zero=>omega
 |succ j ih=>
  have z1:=(h.get hb).lo;have hj:j<c.atts.length:=by have:=(zD.1 hb).1;omega
  simp only[Ao,zH hj]at z1;by_cases e:i=j
  ·subst e;rw[zH hj]at ha;have:=Option.some.inj ha;subst this;exact z1
  have:=ih (by omega) (zH hj);omega
end
section
open Go.Proofs
def AOk.imp{R W:Nat}{lo hi hi':Int}{pv:Option Att}{a:Att}(h:AOk R W lo hi pv a)(hh:hi<=hi'):AOk R W lo hi' pv a:=
 ⟨h.lo,by have:=h.hi;omega,h.rd,h.hvl,h.opl,h.emp,h.ord⟩
def d0a{R W:Nat}{c:Crd}{rs:List Rdr}(h:WfC R W c)(hl:c.atts.length<256)(hn:c.next<1099511627776)(hr:rs.length=R):WfC R W (Rg c rs W):=by
 have d1:=h.nx1;have d2:=h.du1;have d3:=h.du2;refine WfC.of (by simp only[Rg];omega) (by simp only[Rg];omega) d2 (by simp only[Rg];omega) (by simp[Rg];omega) h.r1 h.r2 h.w1 h.w2 λi a e=>?_;simp only[Rg]at e |-;by_cases hi:i<c.atts.length
 ·rw[zJ hi]at e;have hp:Ao (c.atts++[⟨c.next,rs,zG W R8,zG W false⟩]) i=Ao c.atts i:=by
   cases i with
   |zero=>rfl
   |succ i=>simp only[Ao];rw[zJ (by omega)]
  rw[hp];exact(h.get e).imp (by omega)
 have z1:i=c.atts.length:=by have:=(zD.1 e).1;simp at this;omega
 subst z1;rw[zF (by omega),Nat.sub_self]at e;obtain rfl:=Option.some.inj e;refine⟨?_,by simp only;omega,hr,by simp,by simp,λj o h1 _=>?_,λb _ j hj=>?_⟩
 ·cases hm:c.atts.length with
  |zero=>exact d3
  |succ m=>simp only[Ao];rw[zJ (by omega),zH (by omega)];exact(h.get (zH (by omega:m<c.atts.length))).hi
 ·rw[xp]at h1;split at h1
  ·exact(Option.some.inj h1).symm
  cases h1
 simp only at hj;rw[xp]at hj;split at hj
 ·cases hj
 cases hj
end
section
open Go.Proofs
structure Bt where
 ep:Int
 chs:List Int
deriving Inhabited,DecidableEq
structure Snk where
 ep:Int
 com:List Int
 pend:List Bt
deriving Inhabited,DecidableEq
def bnA(n:Int):List AV:=[.agg [.i 0,.i n,.i 0,.i 0]]
def chA(n:Int):AV:= .agg [.i 1,.i 0,.list (bnA n)]
@[simp] def encBt (b:Bt):AV:= .agg [.i b.ep,.list (b.chs.map chA)]
@[simp] def encSk (s:Snk):AV:= .agg [.i s.ep,.list (s.com.map chA),.list (s.pend.map encBt)]
def Uf(s:Snk):Nat:=s.com.length+(s.pend.flatMap (·.chs)).length
structure WfS (s:Snk):Prop where
 e1:0<=s.ep
 e2:s.ep<=1099511627776
 len:s.pend.length<=256
 lo:∀b∈s.pend,s.ep<b.ep/\b.ep<=1099511627776/\1<=b.chs.length
 asc:s.pend.Pairwise λa b=>a.ep<b.ep
 size:Uf s<=4096
def lbE(l:List Bt)(n:Int):Nat:=(l.takeWhile λb=>decide (b.ep<n)).length
def Xg:List Bt->Int->Int->List Bt
 |[],e,x=>[⟨e,[x]⟩]
 |[b],e,x=>if b.ep=e then [⟨e,b.chs++[x]⟩]else [b,⟨e,[x]⟩]
 |b::c::l,e,x=>b::Xg (c::l) e x
def B6(s:Snk)(e:Int):Snk:=⟨e,s.com++(s.pend.take (lbE s.pend (e+1))).flatMap (·.chs),s.pend.drop (lbE s.pend (e+1))⟩
def Xi(s:Snk)(e:Int):Snk:=⟨s.ep,s.com,s.pend.take (lbE s.pend (e+1))⟩
def J5:∀ {l:List Bt} {e x:Int},(∀b∈l,b.ep<e)->Xg l e x=l++[⟨e,[x]⟩]
 |[],_,_,_=>rfl
 |[b],e,x,h=>by have:=h b (by simp);rw[Xg,if_neg (by omega)];rfl
 |b::c::l,e,x,h=>by rw[Xg,J5 (l:=c::l) (λy hy=>h y (xo _ hy))];rfl
def q05:∀ {l:List Bt} {e x:Int} {ch:List Int},Xg (l++[⟨e,ch⟩]) e x=l++[⟨e,ch++[x]⟩]
 |[],e,x,ch=>by simp[Xg]
 |[b],e,x,ch=>by simp[Xg]
 |b::c::l,e,x,ch=>by have:=q05 (l:=c::l) (e:=e) (x:=x) (ch:=ch);simp only[xL,Xg]at this |-;rw[this]
def rng(a b:Int):List Int:=(List.range (b - a).toNat).map λ(i:Nat)=>a+(i:Int)
def Il(a b:Int):(rng a b).length=(b - a).toNat:=by simp[rng]
def X2{a b:Int}(h:b<=a):rng a b=[]:=by
 have:(b - a).toNat=0:=by omega
 simp[rng,this]
def Jy{a b:Int}(h:a<=b):rng a (b+1)=rng a b++[b]:=by
 have e:(b+1 - a).toNat=(b - a).toNat+1:=by omega
 rw[rng,rng,e,List.range_succ,List.map_append,List.map_cons,List.map_nil]
 congr 2
 omega
def q01{a b c:Int}(h1:a<=b)(h2:b<=c):rng a b++rng b c=rng a c:=by
 obtain⟨k,rfl⟩:∃k:Nat,c=b+k:=⟨(c - b).toNat,by omega⟩
 clear h2;induction k with
 |zero=>rw[X2 (a:=b) (by omega)];simp
 |succ k ih=>rw[show b+((k+1:Nat):Int)=b+k+1 by omega,Jy (by omega),Jy (by omega),<-yH,ih]
def g01{a b:Int}{i:Nat}(h:i<(b - a).toNat):(rng a b)[i]?=some (a+i):=by rw[rng,zY,List.getElem?_range h];rfl
def seg(e a b:Int):List Bt:=if a<b then [⟨e,rng a b⟩]else []
def Tl:Int->Int->List Int->Int->List Bt
 |e,a,[],n=>seg e a n
 |e,a,v::vs,n=>seg e a v++Tl (e+1) v vs n
def Km:Int->List Int->Int->Prop
 |a,[],n=>a<=n
 |a,v::vs,n=>a<=v/\Km v vs n
def Km.le:∀ {a:Int} {vs:List Int} {n:Int},Km a vs n->a<=n
 |_,[],_,h=>h
 |_,v::vs,_,h=>by have:=h.2.le;have:=h.1;omega
def Km.mem:∀ {a:Int} {vs:List Int} {n:Int},Km a vs n->∀v∈vs,a<=v/\v<=n
 |_,[],_,_,v,hv=>by simp at hv
 |a,w::vs,n,h,v,hv=>by
  have h1:=h.1;have h2:=h.2.le;rcases yZ.1 hv with rfl|hv
  ·exact⟨h1,h2⟩
  have:=h.2.mem v hv;omega
def Km.emit:∀ {a:Int} {vs:List Int} {n:Int},Km a vs n->Km a vs (n+1)
 |_,[],_,h=>by have:_<=_:=h;show _<=_;omega
 |_,v::vs,_,h=>⟨h.1,h.2.emit⟩
def Km.bar:∀ {a:Int} {vs:List Int} {n:Int},Km a vs n->Km a (vs++[n]) n
 |_,[],_,h=>⟨h,wj _⟩
 |_,v::vs,_,h=>⟨h.1,h.2.bar⟩
def Je{e a b:Int}{x:Bt}(h:x∈seg e a b):x=⟨e,rng a b⟩/\a<b:=by
 unfold seg at h;split at h
 ·exact⟨yU.1 h,by assumption⟩
 simp at h
def On:∀ {e a:Int} {vs:List Int} {n:Int} {x:Bt},x∈Tl e a vs n->e<=x.ep/\x.ep<=e+vs.length/\1<=x.chs.length
 |e,a,[],n,x,h=>by obtain⟨rfl,h1⟩:=Je h;simp[Il];omega
 |e,a,v::vs,n,x,h=>by
  rw[Tl]at h;rcases xg.1 h with h|h
  ·obtain⟨rfl,h1⟩:=Je h;simp[Il];omega
  have:=On h;simp only[yG];omega
def Ln:∀(e a:Int) (vs:List Int) (n:Int),(Tl e a vs n).Pairwise λx y=>x.ep<y.ep
 |e,a,[],n=>by rw[Tl,seg];split<;>simp
 |e,a,v::vs,n=>by rw[Tl,List.pairwise_append];refine⟨by rw[seg];split<;>simp,Ln _ _ _ _,λx hx y hy=>?_⟩;obtain⟨rfl,_⟩:=Je hx;have:=On hy;simp only;omega
def J6{e a b:Int}(h:a<=b):(seg e a b).flatMap (·.chs)=rng a b:=by
 unfold seg;split
 ·simp
 rw[X2 (by omega)];rfl
def A2:∀ {e a:Int} {vs:List Int} {n:Int},Km a vs n->(Tl e a vs n).flatMap (·.chs)=rng a n
 |e,a,[],n,h=>J6 h
 |e,a,v::vs,n,h=>by rw[Tl,w9,J6 h.1,A2 h.2,q01 h.1 h.2.le]
def Fm:∀(e a:Int) (vs:List Int) (n:Int),(Tl e a vs n).length<=vs.length+1
 |e,a,[],n=>by rw[Tl,seg];split<;>simp
 |e,a,v::vs,n=>by
  have:=Fm (e+1) v vs n;have h2:(seg e a v).length<=1:=by rw[seg];split<;>simp
  rw[Tl,zK,yG];omega
def Vj:∀(l m:List Bt) (e x:Int),m≠[]->Xg (l++m) e x=l++Xg m e x
 |[],m,e,x,_=>rfl
 |[b],[],e,x,h=>absurd rfl h
 |[b],c::m,e,x,h=>rfl
 |b::c::l,m,e,x,h=>by have:=Vj (c::l) m e x h;simp only[xL,Xg]at this |-;rw[this]
def L5:∀ {e a:Int} {vs:List Int} {n:Int},Km a vs n->Xg (Tl e a vs n) (e+vs.length) n=Tl e a vs (n+1)
 |e,a,[],n,h=>by
  have h':a<=n:=h;simp only[Tl,seg,wt];rw[if_pos (by omega:a<n+1),Jy h'];split
  ·simp[Xg]
  rw[X2 (by omega)];simp[Xg]
 |e,a,v::vs,n,h=>by
  have ih:=L5 (e:=e+1) h.2;have el:e+1+(vs.length:Int)=e+((v::vs).length:Nat):=by simp;omega
  rw[el]at ih;rw[Tl,Tl];by_cases hm:Tl (e+1) v vs n=[]
  ·rw[hm]at ih |-;rw[xM,<-ih];rw[J5 (l:=seg e a v)]
   ·rfl
   intro b hb;obtain⟨rfl,_⟩:=Je hb;simp only[yG];omega
  rw[Vj _ _ _ _ hm,ih]
def c0q(e a b:Int){m:Int}(h:e<m)(l:List Bt):lbE (seg e a b++l) m=(seg e a b).length+lbE l m:=by
 unfold seg lbE;split
 ·simp[x7,h];omega
 simp
def Vs{l:List Bt}{m:Int}(h:∀b∈l,m<=b.ep):lbE l m=0:=by
 unfold lbE;cases l with
 |nil=>rfl
 |cons b l=>rw[x7,if_neg (by have:=h b (by simp);simp;omega)];rfl
def d04{l:List Bt}{m:Int}(h:∀b∈l,b.ep<m):lbE l m=l.length:=by
 induction l with
 |nil=>rfl
 |cons b l ih=>have:=ih (λx hx=>h x (xo _ hx));unfold lbE at this |-;rw[x7,if_pos (by simpa using h b (by simp)),yG,this,yG]
def Ii(D c:Int)(vs:List Int)(n:Int):Snk:=⟨D,rng 0 c,Tl (D+1) c vs n⟩
def d0d{D c:Int}{vs:List Int}{n:Int}(hD:0<=D)(z1:D+vs.length<=1000)(hv:vs.length<=200)(hc:0<=c)(h:Km c vs n)(hn:n<=4096):WfS (Ii D c vs n):=by
 refine⟨hD,by simp only[Ii];omega,?_,λb hb=>?_,Ln _ _ _ _,?_⟩
 ·have:=Fm (D+1) c vs n;simp only[Ii];omega
 ·have:=On hb;simp only[Ii];omega
 have:=h.le;rw[Uf,Ii];simp only;rw[A2 h,Il,Il];omega
def u0i{D c:Int}{vs:List Int}{n:Int}(h:Km c vs n):(⟨(Ii D c vs n).ep,(Ii D c vs n).com,Xg (Ii D c vs n).pend (D+1+vs.length) n⟩:Snk)=Ii D c vs (n+1):=by simp only[Ii];rw[L5 h]
def u0d{D c v:Int}{vs:List Int}{n:Int}(hc:0<=c)(h:Km c (v::vs) n):B6 (Ii D c (v::vs) n) (D+1)=Ii (D+1) v vs n:=by
 have e:lbE (Tl (D+1) c (v::vs) n) (D+1+1)=(seg (D+1) c v).length:=by rw[Tl,c0q _ _ _ (by omega),Vs (λb hb=>(On hb).1)];rfl
 simp only[B6,Ii];rw[e,Tl,ua,ub,J6 h.1,q01 hc h.1]
 ·rfl
 rfl
def u08{D c:Int}{vs:List Int}{n:Int}:Xi (Ii D c vs n) D=Ii D c [] c:=by have e:lbE (Tl (D+1) c vs n) (D+1)=0:=Vs (λb hb=>(On hb).1);simp only[Xi,Ii];rw[e,List.take_zero,Tl,seg,if_neg (by omega)]
def I1:Int->List Int->List Att
 |_,[]=>[]
 |e,v::vs=>⟨e,[⟨0,v,⟨0,[],[],0⟩⟩],[⟨[v],[]⟩],[true]⟩::I1 (e+1) vs
def Od(D:Int)(vs:List Int):Crd:=⟨D+1+vs.length,I1 (D+1) vs,D⟩
def Yx:∀(e:Int) (vs:List Int),(I1 e vs).length=vs.length
 |_,[]=>rfl
 |e,v::vs=>by rw[I1,yG,yG,Yx]
def Ha:∀(e:Int) (vs:List Int) (n:Int),I1 e (vs++[n])=I1 e vs++[⟨e+vs.length,[⟨0,n,⟨0,[],[],0⟩⟩],[⟨[n],[]⟩],[true]⟩]
 |e,[],n=>by simp[I1]
 |e,v::vs,n=>by rw[xL,I1,I1,Ha];simp;omega
def Iw:∀ {e:Int} {vs:List Int} {i:Nat} {a:Att},(I1 e vs)[i]?=some a->∃v,a=⟨e+i,[⟨0,v,⟨0,[],[],0⟩⟩],[⟨[v],[]⟩],[true]⟩
 |_,[],i,a,h=>by simp[I1]at h
 |e,v::vs,0,a,h=>by simp[I1]at h;exact⟨v,by rw[<-h];simp⟩
 |e,v::vs,i+1,a,h=>by rw[I1,List.getElem?_cons_succ]at h;obtain⟨w,rfl⟩:=Iw h;exact⟨w,by simp;omega⟩
def f0s{D:Int}{vs:List Int}(hD:0<=D)(h2:D+vs.length<=1000)(hv:vs.length<=200):WfC 1 1 (Od D vs):=by
 refine WfC.of (by simp only[Od];omega) (by simp only[Od];omega) hD (by simp only[Od];omega) (by rw[Od];simp only;rw[Yx];omega) (by omega) (by omega) (by omega) (by omega) λi a e=>?_;simp only[Od]at e |-;have hl:=(zD.1 e).1;rw[Yx]at hl;obtain⟨v,rfl⟩:=Iw e;refine⟨?_,by simp only;omega,rfl,rfl,rfl,λj o _ h2=>?_,λb hb j hj=>?_⟩
 ·cases i with
  |zero=>simp only[Ao];omega
  |succ i=>
   simp only[Ao];have hi:i<(I1 (D+1) vs).length:=by rw[Yx];omega
   rw[zH hi];obtain⟨w,hw⟩:=Iw (zH hi);simp only[hw];omega
 ·cases j<;>simp at h2
 cases i with
 |zero=>cases hb
 |succ i=>simp only[Ao]at hb;obtain⟨w,rfl⟩:=Iw hb;exact hj
end
section
open Go.Proofs
def Qc{H:List AObj}{i:Nat}{x:AObj}(h:H[i]?=some x)(G:List AObj):(H++G)[i]?=some x:=by rw[zJ (zD.1 h).1];exact h
def Qa{H:List AObj}{i j:Nat}{x:AObj}(z1:j≠i)(h:H[i]?=some x)(y:AObj):(H.set j y)[i]?=some x:=by rw[zI z1];exact h
def Qf{H:List AObj}{i:Nat}{x:AObj}(h:H[i]?=some x)(y:AObj):(H.set i y)[i]?=some y:=zL (zD.1 h).1
def Sk{P:Program}[Env P]{f:Nat}{args:List AV}{H0:List AObj}{R:AV->List AObj->Prop}(h:∀H1,H1=H0->FC P f args H1 R):FC P f args H0 R:=h _ rfl
def Zm{H:List AObj}{q:Nat}{x:AObj}(h:H[q]?=some x):H.set q x=H:=by
 apply xW;intro i;by_cases hi:q=i
 ·subst hi;rw[h];exact zL (zD.1 h).1
 rw[zI hi]
end
section
open Go.Proofs
attribute [simp] x1m u1k T32 T30 T93 T91 T94 u1x u1s T36 T33 T34 T78 c0e T76 T45 T22 T39 T41 T25 k1c u1q
def Qn{H:List AObj}{i:Nat}{x:AObj}(h:H[i]?=some x):i<H.length:=(zD.1 h).1
def HX(H H':List AObj):Prop:=∀(i:Nat) (o:AObj),H[i]?=some o->H'[i]?=some o
def HX.refl(H:List AObj):HX H H:=λ_ _ h=>h
def HX.trans{A B C:List AObj}(h:HX A B)(k:HX B C):HX A C:=λi o e=>k i o (h i o e)
def HX.app{A B:List AObj}(h:HX A B)(L:List AObj):HX A (B++L):=λi o e=>Qc (h i o e) L
def HX.len{A B:List AObj}(h:HX A B):A.length<=B.length:=by
 cases hA:A.length with
 |zero=>omega
 |succ n=>have:=Qn (h n A[n] (zH (by omega)));omega
def HX.set{A B:List AObj}(h:HX A B){i:Nat}(hi:A.length<=i)(o:AObj):HX A (B.set i o):=λj x e=>Qa (by have:=Qn e;omega) (h j x e) o
def cCr(c:Crd):List AV:=[.i c.next,.list (c.atts.map encAt),.i c.dur]
def N6(n lo hi:Int):PC prog 56 [.i n,.i lo,.i hi] (λr=>r= .bool (decide (lo<=n) && decide (n<=hi))):=by refine pcB func56 results56 ntmps56 ?_;simp only[Qe];repeat(refine s_ ?_;simp)
def Te(n lo hi:Int)(h1:lo<=n)(h2:n<=hi):PC prog 56 [.i n,.i lo,.i hi] (λr=>r= .bool true):=by have:=N6 n lo hi;simpa[h1,h2]using this
def f0j(l:List Opr)(h:l.length<=1000000):FR prog 61 [.list (l.map avOpr)] 58 2 (λr=>r=l.map avOpr):=by
 refine Fc tOk func61 rfl results61 rfl (by simp[ntmps61]) ?_;rw[ntmps61];simp only[Qe];repeat(refine s_ ?_;simp)
 refine apS T59 T58 ?_;simp;refine⟨by simp[Eg]<;>omega,?_⟩;repeat(refine s_ ?_;simp)
def f04(l:List Bool)(h:l.length<=1000000):FR prog 62 [.list (l.map AV.bool)] 4 1 (λr=>r=l.map AV.bool):=by
 refine Fc tOk func62 rfl results62 rfl (by simp[ntmps62]) ?_;rw[ntmps62];simp only[Qe];repeat(refine s_ ?_;simp)
 refine apS T91 T4 ?_;simp;refine⟨⟨λy hy=>by obtain⟨b,_,rfl⟩:=xd.1 hy;exact⟨rfl,rfl⟩,by simp;omega⟩,?_⟩;repeat(refine s_ ?_;simp)
def g0m(l:List Att)(h:l.length<=1000000):FR prog 59 [.list (l.map encAt)] 93 4 (λr=>r=l.map encAt):=by
 refine Fc tOk func59 rfl results59 rfl (by simp[ntmps59]) ?_;rw[ntmps59];simp only[Qe];repeat(refine s_ ?_;simp)
 refine apS T30 T93 ?_;simp;refine⟨by simp[Eg]<;>omega,?_⟩;repeat(refine s_ ?_;simp)
def g03(l:List Int)(h:l.length<=1000000):PC prog 35 [.list (l.map AV.i)] (λr=>r= .list (l.map AV.i)):=by
 refine pcB func35 results35 ntmps35 ?_;simp only[Qe];repeat(refine s_ ?_;simp)
 refine apS T23 T3 ?_;simp;refine⟨by simp[Eg]<;>omega,?_⟩;repeat(refine s_ ?_;simp)
 rw[zX (by simp)]
def d0p(l:List Kyd)(h:l.length<=1000000):PC prog 36 [.list (l.map avKyd)] (λr=>r= .list (l.map avKyd)):=by
 refine pcB func36 results36 ntmps36 ?_;simp only[Qe];repeat(refine s_ ?_;simp)
 refine apS T56 x1c ?_;simp;refine⟨by simp[Eg]<;>omega,?_⟩;repeat(refine s_ ?_;simp)
 rw[zX (by simp)]
def Xk(l:List Rdr)(h:l.length<=1000000):PC prog 33 [.list (l.map avRdr)] (λr=>r= .list (l.map avRdr)):=by
 refine pcB func33 results33 ntmps33 ?_;simp only[Qe];repeat(refine s_ ?_;simp)
 refine apS T53 T52 ?_;simp;refine⟨by simp[Eg]<;>omega,?_⟩;repeat(refine s_ ?_;simp)
 rw[zX (by simp)]
def f06(l:List Opr)(h:l.length<=1000000):PC prog 61 [.list (l.map avOpr)] (λr=>r= .list (l.map avOpr)):=by
 refine pcB func61 results61 ntmps61 ?_;simp only[Qe];repeat(refine s_ ?_;simp)
 refine apS T59 T58 ?_;simp;refine⟨by simp[Eg]<;>omega,?_⟩;repeat(refine s_ ?_;simp)
 rw[zX (by simp)]
def f0o(l:List Bool)(h:l.length<=1000000):PC prog 62 [.list (l.map AV.bool)] (λr=>r= .list (l.map AV.bool)):=by
 refine pcB func62 results62 ntmps62 ?_;simp only[Qe];repeat(refine s_ ?_;simp)
 refine apS T91 T4 ?_;simp;refine⟨⟨λy hy=>by obtain⟨b,_,rfl⟩:=xd.1 hy;exact⟨rfl,rfl⟩,by simp;omega⟩,?_⟩;repeat(refine s_ ?_;simp)
 rw[zX (by simp)]
def z0i(a:Att)(h1:a.rds.length<=1000000)(h2:a.ops.length<=1000000)(h3:a.hv.length<=1000000):PC prog 38 [encAt a] (λr=>r=encAt a):=by
 refine pcB func38 results38 ntmps38 ?_;simp only[Qe];simp only[encAt];repeat(refine s_ ?_;simp)
 refine Qx tOk mixed [10,12,14] (.val 0 (.val 1 (.val 3 (.val 4 (.val 6 (.val 7 (.one 2 (.val 9 (.one 5 (.one 8 (.one 10 (.val 11 (.one 12 (.val 13 (.one 14 (.done)))))))))))))))) rfl (by kernel_rfl) ?_;simp;refine pcL (Xk a.rds h1) ?_;simp;refine pcL (f06 a.ops h2) ?_;simp;refine pcL (f0o a.hv h3) ?_;simp;repeat(refine s_ ?_;simp)
def j0k(a:Att)(h1:a.rds.length<=1000000)(h2:a.ops.length<=1000000)(h3:a.hv.length<=1000000)(H:List AObj):FC prog 38 [encAt a] H (λr H'=>HX H H'/\∃O B,r= .agg [.i a.num,.list (a.rds.map avRdr),.sl O 2 0 a.ops.length,.sl B 1 0 a.hv.length]/\H.length<=O/\O<B/\H'[O]?=some (.arr 58 2 (a.ops.map avOpr))/\H'[B]?=some (.arr 4 1 (a.hv.map AV.bool))):=by
 refine fcB func38 results38 ntmps38 ?_;simp only[Qe];simp only[encAt];repeat(refine s_ ?_;simp)
 refine Qx tOk mixed [10,12,14] (.val 0 (.val 1 (.val 3 (.val 4 (.val 6 (.val 7 (.one 2 (.val 9 (.one 5 (.one 8 (.one 10 (.val 11 (.one 12 (.val 13 (.one 14 (.done)))))))))))))))) rfl (by kernel_rfl) ?_;simp;refine pcL (Xk a.rds h1) ?_;simp;refine To rfl rfl (by simp) (f0j a.ops h2) rfl ?_;rintro _ rfl;simp;refine To rfl rfl (by simp) (f04 a.hv h3) rfl ?_;rintro _ rfl;simp;repeat(refine s_ ?_;simp)
 refine⟨(HX.refl H).app _,_,_,⟨rfl,rfl⟩,by omega,by omega,?_,?_⟩
 ·rw[zF (by omega)];simp
 rw[zF (by omega)];simp
def pvP:Option Att->AV
 |none=> .nilp
 |some b=> .iptr (cAt b)
def Vi(c:Crd)(a:Att)(h:c.atts[0]?=some a):PC prog 90 [.iptr (cCr c)] (λr=>r=encAt a):=by
 refine pcB func90 results90 ntmps90 ?_;simp only[Qe];simp only[cCr];have hl:=(zD.1 h).1;have hg:(c.atts.map encAt)[0]?=some (encAt a):=by rw[zY,h];rfl
 have hh:∀k,(c.atts.map encAt)[0]'k=encAt a:=λk=>(List.getElem_eq_iff k).2 hg;repeat(refine s_ ?_;simp[hl,hg,hh])
end
section
open Go.Proofs
attribute [simp] x1g T74
def Iy(l:List Int)(hl:l.length<=1000000):PC prog 77 [.list (l.map chA)] (λr=>r= .i 0):=by
 refine pcB func77 results77 ntmps77 ?_;simp only[Qe];repeat(refine s_ ?_;simp)
 refine R3 l.length (λ_=>True) (λj=>[(5,.list (l.map chA)),(6,.i l.length),(7,.i j)]) (λ_=>[]) rfl (by simp) (by simp) (by simp) (by simp) trivial ?_;intro j hj _ ih;repeat(refine s_ ?_;simp)
 refine Qb rfl (λz8=>?_) (λza=>?_)
 ·have z1:j<l.length:=by simpa using z8
  have hw:=wz j (by omega);have hg:(l.map chA)[j]?=some (chA l[j]):=by simp[z1]
  have hh:∀q,(l.map chA)[j]'q=chA l[j]:=λq=>by simp
  generalize l[j]=x at *;simp only[chA]at hg hh
  repeat(refine s_ ?_;simp[z1,hg,hh])
  refine Qg rfl ?_;simp;repeat(refine s_ ?_;simp)
  refine Qg rfl ?_;simp;repeat(refine s_ ?_;simp[hw])
  refine Wf _ (ih z1 trivial) rfl (by simp) ?_ (by simp) (by simp);simp
 repeat(refine s_ ?_;simp)
def A0(l:List Bt):PC prog 29 [.list (l.map encBt)] (λr=>r= .fn (.func 55) [] [.iptr [.list (l.map encBt)]]):=by refine pcB func29 results29 ntmps29 ?_;simp only[Qe];repeat(refine s_ ?_;simp)
def Jf (bs:List Bt) (hl:bs.length<=1000000) (hc:∀b∈bs,b.chs.length<=1000000) (l:Nat) {zd:Nat} {sl':List (Nat×AV)} {ps:List Tmp} {asg body:Code} (zo:ps.length=1) (zp:(ps.all λp=>decide (p<zd))=true)
  (Inv:List Int->List AObj->Prop) (H0:List AObj)
  (hI:∀k H,Inv k H->H[l]?=some (.lp true none zd sl' ps asg body))
  (za:∀k H L,Inv k H->Inv k (H++L))
  (zb:∀pre x post H,bs.flatMap (·.chs)=pre++x::post->Inv pre H->H0.length<=H.length->AWP prog zd H.length asg (Pa (AWP prog zd H.length body (G7 l (λjm K2=>jm=none/\Inv (pre++[x]) (K2.set l (.lp true none zd sl' ps asg body))/\H.length<=K2.length))) (λ_ _=>False)) ⟨R6 sl' ps [chA x],H.set l .dead⟩)
  (h0:Inv [] H0):FC prog 55 [.yld l,.iptr [.list (bs.map encBt)]] H0 (λ_ H'=>Inv (bs.flatMap (·.chs)) H'/\H0.length<=H'.length):=by
 refine fcB func55 results55 ntmps55 ?_;simp only[Qe];repeat(refine s_ ?_;simp)
 refine Qp (Qh (sl':=[(0,.yld l),(1,.iptr [.list (bs.map encBt)]),(7,.list (bs.map encBt)),(8,.i bs.length),(9,.i (0:Nat))]) ?_ (by simp));refine Qs (P:=prog) (F:=λ(u:Nat×List AObj)=>⟨[(0,.yld l),(1,.iptr [.list (bs.map encBt)]),(7,.list (bs.map encBt)),(8,.i bs.length),(9,.i u.1)],u.2⟩)
  (λu=>u.1<=bs.length/\Inv ((bs.take u.1).flatMap (·.chs)) u.2/\H0.length<=u.2.length) (λu=>bs.length - u.1) ?_ (0,H0) ⟨yL _,h0,zR _⟩
 rintro⟨j,J⟩ ⟨hj,hv,hJ⟩ ih;simp only at hj hv hJ ih |-;repeat(refine s_ ?_;simp)
 refine Qb rfl (λzq=>?_) (λzr=>?_)
 ·have z8:j<bs.length:=by simpa using zq
  have hw:=wz j (by omega);have zx:=hc _ (yw z8);have zt:bs.flatMap (·.chs)=(bs.take j).flatMap (·.chs)++(bs[j].chs++(bs.drop (j+1)).flatMap (·.chs)):=by
   conv=>lhs;rw[<-yI j bs,yR z8]
   rw[w9,wd]
  have zu:(bs.take (j+1)).flatMap (·.chs)=(bs.take j).flatMap (·.chs)++bs[j].chs:=by rw[yM z8,w9];simp
  have zk:=λH'=>ih (j+1,H');simp only[zu]at zk;have hg:(bs.map encBt)[j]?=some (encBt bs[j]):=by simp[z8]
  have hh:∀q,(bs.map encBt)[j]'q=encBt bs[j]:=λq=>by simp
  generalize bs[j]=b at *
  generalize (bs.take j).flatMap (·.chs)=pre at *
  generalize (bs.drop (j+1)).flatMap (·.chs)=post at *
  repeat(refine s_ ?_;simp[z8,hg,hh])
  have ze:=za _ _ [AObj.vars [.i b.ep,.list (b.chs.map chA)]] hv;have zg:H0.length<=(J++[AObj.vars [.i b.ep,.list (b.chs.map chA)]]).length:=by simp;omega
  generalize J++[AObj.vars [.i b.ep,.list (b.chs.map chA)]]=J1 at *;refine Qp (Qh (sl':=[(0,.yld l),(1,.iptr [.list (bs.map encBt)]),(7,.list (bs.map encBt)),(8,.i bs.length),(9,.i j),(14,.list (b.chs.map chA)),(15,.i b.chs.length),(16,.i (0:Nat))]) ?_ (by simp))
  refine Qs (P:=prog) (F:=λ(u:Nat×List AObj)=>⟨[(0,.yld l),(1,.iptr [.list (bs.map encBt)]),(7,.list (bs.map encBt)),(8,.i bs.length),(9,.i j),(14,.list (b.chs.map chA)),(15,.i b.chs.length),(16,.i u.1)],u.2⟩)
   (λu=>u.1<=b.chs.length/\Inv (pre++b.chs.take u.1) u.2/\H0.length<=u.2.length) (λu=>b.chs.length - u.1) ?_ (0,J1) ⟨yL _,by simpa using ze,zg⟩
  clear ze zg hv hJ;clear J1;rintro⟨i,K⟩ ⟨hi,hv,hJ⟩ ih2;simp only at hi hv hJ ih2 |-;repeat(refine s_ ?_;simp)
  refine Qb rfl (λzh=>?_) (λzi=>?_)
  ·have z1:i<b.chs.length:=by simpa using zh
   have zv:=wz i (by omega);have zj:b.chs.take (i+1)=b.chs.take i++[b.chs[i]]:=yM z1;have zw:pre++(b.chs++post)=(pre++b.chs.take i)++b.chs[i]::(b.chs.drop (i+1)++post):=by have e:b.chs=b.chs.take i++b.chs[i]::b.chs.drop (i+1):=(yI i b.chs).symm.trans (by rw[yR z1]);rw[show pre++(b.chs++post)=pre++((b.chs.take i++b.chs[i]::b.chs.drop (i+1))++post) from by rw[<-e]];simp only[yH,xL]
   have zf:=λH'=>ih2 (i+1,H');simp only[zj]at zf;have zl:(b.chs.map chA)[i]?=some (chA b.chs[i]):=by simp[z1]
   have zm:∀q,(b.chs.map chA)[i]'q=chA b.chs[i]:=λq=>by simp
   generalize b.chs[i]=x at *;simp only[chA]at zl zm
   repeat(refine s_ ?_;simp[z1,zl,zm])
   have ze:=za _ _ [AObj.vars [.i 1,.i 0,.list (bnA x)]] hv;have zg:H0.length<=(K++[AObj.vars [.i 1,.i 0,.list (bnA x)]]).length:=by simp;omega
   generalize K++[AObj.vars [.i 1,.i 0,.list (bnA x)]]=K1 at *
   have zn:=zb _ x _ K1 (by rw[zt,zw]) ze zg;simp only[chA]at zn;refine E4 rfl rfl (q:=l) rfl rfl (hI _ _ ze) zo zp rfl (λjm K2=>jm=none/\Inv ((pre++b.chs.take i)++[x]) (K2.set l (.lp true none zd sl' ps asg body))/\K1.length<=K2.length) zn ?_;rintro jm K2 ⟨rfl,hK,zy⟩;simp;repeat(refine s_ ?_;simp)
   refine Qg rfl ?_;simp;repeat(refine s_ ?_;simp[zv])
   refine Qh (sl':=[(0,.yld l),(1,.iptr [.list (bs.map encBt)]),(7,.list (bs.map encBt)),(8,.i bs.length),(9,.i j),(14,.list (b.chs.map chA)),(15,.i b.chs.length),(16,.i (i+1:Nat))]) ?_ (by simp);exact zf _ ⟨by omega,by rw[<-yH];exact hK,by simp;omega⟩ (by omega)
  have zc:i=b.chs.length:=by simp at zi;omega
  subst zc;rw[yW]at hv;repeat(refine s_ ?_;simp[hw])
  refine Qh (sl':=[(0,.yld l),(1,.iptr [.list (bs.map encBt)]),(7,.list (bs.map encBt)),(8,.i bs.length),(9,.i (j+1:Nat))]) ?_ (by simp);exact zk _ ⟨by omega,hv,hJ⟩ (by omega)
 have zc:j=bs.length:=by simp at zr;omega
 subst zc;rw[yW]at hv;repeat(refine s_ ?_;simp)
 exact⟨hv,hJ⟩
def SzI(s:Snk)(pre:List Int)(K:List AObj):Prop:=∃n:Nat,n=s.com.length+pre.length/\K[1]?=some (AObj.vars [AV.i (n:Int)])
def P6(s:Snk)(h1:s.com.length<=1000000)(h2:s.pend.length<=1000000)(h3:∀b∈s.pend,b.chs.length<=1000000)(h4:Uf s<=1000000):PC prog 79 [encSk s] (λr=>r= .i (Uf s)):=by
 refine pcB func79 results79 ntmps79 ?_;simp only[Qe];simp only[encSk];repeat(refine s_ ?_;simp)
 refine pcL (A0 s.pend) ?_;simp;repeat(refine s_ ?_;simp)
 have za:s.com.length+(s.pend.flatMap (·.chs)).length<=1000000:=h4;refine Ef rfl (Rf:=λ_ H'=>H'[1]?=some (.vars [.i (Uf s)])/\2<H'.length/\∃sl' zb a' b',H'[2]?=some (.lp true none 14 sl' zb a' b')) ?_ ?_
 ·simp;refine Sk λH1 z8=>?_;have f1:=congrArg (λh:List AObj=>h[1]?) z8;have f2:=congrArg (λh:List AObj=>h[2]?) z8;simp at f1 f2;clear z8;refine FC.mono (Jf s.pend h2 h3 2 (by rfl) (by rfl) (λpre K=>SzI s pre K/\K[2]? =H1[2]?) H1 (λ_ K h=>h.2.trans f2) (λ_ K L h=>⟨h.1.elim λn h=>⟨n,h.1,Qc h.2 L⟩,by rw[<-h.2,zJ (Qn (h.2.trans f2))]⟩) ?_ ⟨⟨_,by simp,f1⟩,rfl⟩) ?_
  ·rintro pre x post K heq ⟨⟨n,hn,k1⟩,k2⟩ hK;have h8:=k2.trans f2;simp[R6];have z1:=Qa (j:=2) (by decide) k1 .dead;have z2:=Qf h8 .dead;have zl:(K.set 2 .dead).length=K.length:=by simp
   clear k1 k2;generalize K.set 2 .dead=Z at *
   have zc:s.com.length+pre.length+1<=1000000:=by rw[heq]at za;simp at za;omega
   have hw:=wz n (by omega);repeat(refine s_ ?_;simp[z1,hw])
   have l1:=Qn z1;have l2:=Qn z2;exact⟨by simp[zZ,z2],rfl,⟨⟨n+1,by simp[hn];omega,by simp[zZ,l1]⟩,by rw[zL (by simpa using l2),f2]⟩,by simp[zl]⟩
  rintro r H' ⟨⟨⟨n,hn,h1⟩,h2⟩,h3⟩;exact⟨by rw[h1,hn];rfl,Qn (h2.trans f2),_,_,_,_,h2.trans f2⟩
 rintro r H' ⟨h1,h2,sl',zb,a',b',h3⟩;refine⟨_,_,_,_,_,_,_,h3,?_⟩;simp;have y1:=Qa (j:=2) (by decide) h1 .dead;generalize H'.set 2 .dead=Y at *
 repeat(refine s_ ?_;simp[y1])
end
end Go.Abs
