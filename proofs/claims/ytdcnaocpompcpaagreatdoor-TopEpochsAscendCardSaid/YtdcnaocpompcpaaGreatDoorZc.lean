/- Part Zc of the proof: steps on the way to the last part. No condition. -/
import Derived.Test.YtdcnaocpompcpaaGreatDoorZb
import Derived.Lib.MakeNoZero
import Derived.Carry
import Derived.Maps.Keyed
import Derived.Laws.MakeOwn
import Derived.Shelf.GgSortFunc.RowK
import Derived.Shelf.SlSortCmp.WholeK
import Derived.Shelf.SlSortCmp.NoneTotal
import Derived.Test.YtdcnaocpompcpaaGreatDoorChecked
import Derived.KernelRfl
import Derived.Lib.LaidTab
import Derived.Lib.ItoaNum
import Derived.Test.YtdcnaocpompcpaaGreatDoorZa
set_option linter.all false
open Bool renaming and_eq_true->zX
open List renaming all_eq_true->zV,replicate->zH,length_map->xp,getElem?_replicate->xt,getElem?_eq_some_iff->zD,getElem?_map->zU,mem_of_getElem?->zE,getElem?_set_self->zJ,getElem?_set_ne->zI,mem_of_mem_drop->wd,mem_of_mem_take->xL,getElem?_take->yJ,getElem?_drop->yX,mem_iff_getElem?->xm,getElem_mem->yB,getElem?_eq_getElem->zG,eq_nil_of_length_eq_zero->xi,length_nil->wH,size_toArray->yG,nil_append->wo,mem_append->xu,getElem?_append_left->zK,getElem?_append_right->zF,mem_map->xg,ext_getElem?->xk,mem_cons->y_,mem_singleton->xd,mem_cons_self->ve,mem_cons_of_mem->xA,cons_append->xX,length_cons->yQ,flatMap_cons->wt,append_assoc->yL,take_left'->up,drop_left'->ur,foldl_nil->vk,append_nil->xY,flatMap_append->wm,takeWhile_cons->xj,take_of_length_le->zY,take_append_drop->yN,drop_eq_getElem_cons->yU,take_succ_eq_append_getElem->yI,take_length->yV,getElem?_set->zW
open Array renaming replicate->wD,getD_eq_getD_getElem?->xN,size_append->xq,getElem?_append_left->yK
open Nat renaming le_refl->zR,mul_le_mul_right->zZ,add_mul->yA,mul_comm->wA,mod_eq_of_lt->wn,zero_add->yW,eq_zero_or_pos->xz,zero_mul->vx,le_succ->vF,mod_lt->uM,le_of_ble_eq_true->vR,pow_add->uA,add_comm->wG,zero_le->yO
open Option renaming map_some->xU,map_eq_some_iff->zM,getD_some->xQ
open Int renaming le_refl->wI,toNat_natCast->xn
set_option maxHeartbeats 8000000
set_option linter.unusedSimpArgs false
set_option maxRecDepth 100000
open Go.Proofs.Tryz
namespace Go.Abs
open Go
section
open Go.RowKit
section
variable {P:Program} [Env P] {T:TT} {nt k:Nat} {S:AS} {ops:Array Oper} {o:Oper} {R:AS->Prop} {Q:Exit->AS->Prop}
end
end
section
open Go.RowKit Go.Maps
section
variable {P:Program} [Env P] {T:TT} {nt k:Nat} {S:AS} {ops:Array Oper} {o:Oper} {R:AS->Prop} {Q:Exit->AS->Prop}
end
end
section
open Go.RowKit
inductive PlanM where
 |done
 |val (i:Nat) (p:PlanM)
 |one (i:Nat) (p:PlanM)
 |two (i:Nat) (p:PlanM) (j:Nat) (q:PlanM)
 |three (i:Nat) (p:PlanM) (j:Nat) (q:PlanM) (m:Nat) (r:PlanM)
 |four (i:Nat) (p:PlanM) (j:Nat) (q:PlanM) (m:Nat) (r:PlanM) (n:Nat) (s:PlanM)
def PlanM.size:PlanM->Nat
 | .done=>0
 | .val _ p=>p.size+1
 | .one _ p=>p.size+1
 | .two _ p _ _=>p.size+1
 | .three _ p _ _ _ _=>p.size+1
 | .four _ p _ _ _ _ _ _=>p.size+1
def W5(ops:Array Oper)(cl:List (List Nat))(Wr:List Nat):PlanM->Array Bool->Bool
 | .done,l=>(Region.ready .any ops l).isEmpty
 | .val i p,l=>(match ops[i]? with
   |none=>false
   |some o=>isVal o.op && Hi ops cl Wr l i && (Region.ready .any ops l).contains i) && W5 ops cl Wr p (l.setIfInBounds i true)
 | .one i p,l=>(ops[i]?).isSome && Region.ready .any ops l==[i] && W5 ops cl Wr p (l.setIfInBounds i true)
 | .two i p j q,l=>(ops[i]?).isSome && (ops[j]?).isSome && Region.ready .any ops l==[i,j] && p.size==q.size && W5 ops cl Wr p (l.setIfInBounds i true) && W5 ops cl Wr q (l.setIfInBounds j true)
 | .three i p j q m r,l=>(ops[i]?).isSome && (ops[j]?).isSome && (ops[m]?).isSome && Region.ready .any ops l==[i,j,m] && p.size==q.size && p.size==r.size && W5 ops cl Wr p (l.setIfInBounds i true) && W5 ops cl Wr q (l.setIfInBounds j true) && W5 ops cl Wr r (l.setIfInBounds m true)
 | .four i p j q m r n t,l=>(ops[i]?).isSome && (ops[j]?).isSome && (ops[m]?).isSome && (ops[n]?).isSome && Region.ready .any ops l==[i,j,m,n] && p.size==q.size && p.size==r.size && p.size==t.size && W5 ops cl Wr p (l.setIfInBounds i true) && W5 ops cl Wr q (l.setIfInBounds j true) && W5 ops cl Wr r (l.setIfInBounds m true) && W5 ops cl Wr t (l.setIfInBounds n true)
def Q2(P:Program)[Env P](T:TT)(nt k:Nat)(ops:Array Oper)(W:Nat->Bool)(Q:AS->Prop):PlanM->AS->Prop
 | .done,S=>Q S
 | .val i p,S=>stepT P T nt k ops W i (Q2 P T nt k ops W Q p) S
 | .one i p,S=>Re P T nt k ops W i (Q2 P T nt k ops W Q p) S
 | .two i p j q,S=>Re P T nt k ops W i (Q2 P T nt k ops W Q p) S/\Re P T nt k ops W j (Q2 P T nt k ops W Q q) S
 | .three i p j q m r,S=>Re P T nt k ops W i (Q2 P T nt k ops W Q p) S/\Re P T nt k ops W j (Q2 P T nt k ops W Q q) S/\Re P T nt k ops W m (Q2 P T nt k ops W Q r) S
 | .four i p j q m r n t,S=>Re P T nt k ops W i (Q2 P T nt k ops W Q p) S/\Re P T nt k ops W j (Q2 P T nt k ops W Q q) S/\Re P T nt k ops W m (Q2 P T nt k ops W Q r) S/\Re P T nt k ops W n (Q2 P T nt k ops W Q t) S
section
variable {P:Program} [Env P] {T:TT} {nt k:Nat} {S:AS} {ops:Array Oper} {o:Oper} {R:AS->Prop} {Wr:List Nat}
def E4(hT:TOk P T){C:Cx P}(hd:Yh nt ops.toList=true)(zb:Region.noSelect ops=true):∀(p:PlanM) (listed:Array Bool) (S:AS) (a:Act) (w:World),Ut ops listed->W5 ops (Yu ops.toList []) Wr p listed=true->Q2 P T nt k ops Wr.contains R p S->St C nt k S a w->
  Sa P ops Wr (w0a C nt k R) p.size listed a w
 | .done,listed,S,a,w,_,hp,h,hs=>⟨by simpa[W5]using hp,S,h,hs⟩
 | .val i p,listed,S,a,w,za,hp,h,hs=>by
  unfold W5 at hp;unfold Q2 stepT at h;rw[zX]at hp;obtain⟨zi,zc⟩:=hp;cases ho:ops[i]? with
  |none=>rw[ho]at h;exact h.elim
  |some o=>
   rw[ho]at h zi;simp only at h zi;have zm:Ek nt o=true:=zV.1 hd o (by simpa using Array.mem_of_getElem? ho);simp only[zX]at zi;obtain⟨⟨hv,hf⟩,hr⟩:=zi;have zn:Ih o.op=true:=by cases hop:o.op<;>rw[hop]at hv<;>first|rfl|exact hv|(simp[isVal]at hv)
   rw[if_pos zn]at h;have z1:i∈Region.ready .any ops listed:=by simpa using hr
   split at h
   ·rename_i S' zo;obtain⟨v,hy,z8⟩:=hs.yields hT zm hv zo;exact Ie ho (Region.noSelect_spec zb) (λc a w hq=>hq) (λx y=>T1 o.op=true->Tz x y) (λw _=>Tz.refl w) (λx y z h1 h2 hr=>(h1 hr).trans (h2 hr)) p.size listed a w
     (λj oj hj zp zq zr=>Kf ho hf j oj hj zp zq zr) za z1 hy (E4 hT hd zb p _ S' _ w (za.set z1) zc h.2 z8)
   exact h.elim
 | .one i p,listed,S,a,w,za,hp,h,hs=>by
  unfold W5 at hp;simp only[zX,beq_iff_eq]at hp;obtain⟨⟨_,z1⟩,zc⟩:=hp;have zt:i∈Region.ready .any ops listed:=by rw[z1];simp
  refine⟨λh0=>(by rw[z1]at h0;cases h0),λj hj=>?_⟩;rw[z1]at hj;obtain rfl:j=i:=by simpa using hj
  exact Rp hT hd h hs λS' a' w' hR z8=>E4 hT hd zb p _ S' a' w' (za.set zt) zc hR z8
 | .two i p j q,listed,S,a,w,za,hp,h,hs=>by
  unfold W5 at hp;simp only[zX,beq_iff_eq]at hp;obtain⟨⟨⟨⟨_,z1⟩,ze⟩,zc⟩,zf⟩:=hp;have zg:i∈Region.ready .any ops listed:=by rw[z1];simp
  have zh:j∈Region.ready .any ops listed:=by rw[z1];simp
  refine⟨λh0=>(by rw[z1]at h0;cases h0),λm hm=>?_⟩;rw[z1]at hm;rcases(by simpa using hm:m=i\/m=j)with rfl|rfl
  ·exact Rp hT hd h.1 hs λS' a' w' hR z8=>E4 hT hd zb p _ S' a' w' (za.set zg) zc hR z8
  refine Rp hT hd h.2 hs λS' a' w' hR z8=>?_;have:=E4 hT hd zb q _ S' a' w' (za.set zh) zf hR z8;rw[<-ze]at this;exact this
 | .three i p j q g r,listed,S,a,w,za,hp,h,hs=>by
  unfold W5 at hp;simp only[zX,beq_iff_eq]at hp;obtain⟨⟨⟨⟨⟨⟨_,z1⟩,ze⟩,zd⟩,zc⟩,zf⟩,zj⟩:=hp;have zg:i∈Region.ready .any ops listed:=by rw[z1];simp
  have zh:j∈Region.ready .any ops listed:=by rw[z1];simp
  have zk:g∈Region.ready .any ops listed:=by rw[z1];simp
  refine⟨λh0=>(by rw[z1]at h0;cases h0),λm hm=>?_⟩;rw[z1]at hm;rcases(by simpa using hm:m=i\/m=j\/m=g)with rfl|rfl|rfl
  ·exact Rp hT hd h.1 hs λS' a' w' hR z8=>E4 hT hd zb p _ S' a' w' (za.set zg) zc hR z8
  ·refine Rp hT hd h.2.1 hs λS' a' w' hR z8=>?_;have:=E4 hT hd zb q _ S' a' w' (za.set zh) zf hR z8;rw[<-ze]at this;exact this
  refine Rp hT hd h.2.2 hs λS' a' w' hR z8=>?_;have:=E4 hT hd zb r _ S' a' w' (za.set zk) zj hR z8;rw[<-zd]at this;exact this
 | .four i p j q g r n t,listed,S,a,w,za,hp,h,hs=>by
  unfold W5 at hp;simp only[zX,beq_iff_eq]at hp;obtain⟨⟨⟨⟨⟨⟨⟨⟨_,z1⟩,ze⟩,zd⟩,zl⟩,zc⟩,zf⟩,zj⟩,zu⟩:=hp;have zg:i∈Region.ready .any ops listed:=by rw[z1];simp
  have zh:j∈Region.ready .any ops listed:=by rw[z1];simp
  have zk:g∈Region.ready .any ops listed:=by rw[z1];simp
  have zv:n∈Region.ready .any ops listed:=by rw[z1];simp
  refine⟨λh0=>(by rw[z1]at h0;cases h0),λm hm=>?_⟩;rw[z1]at hm;rcases(by simpa using hm:m=i\/m=j\/m=g\/m=n)with rfl|rfl|rfl|rfl
  ·exact Rp hT hd h.1 hs λS' a' w' hR z8=>E4 hT hd zb p _ S' a' w' (za.set zg) zc hR z8
  ·refine Rp hT hd h.2.1 hs λS' a' w' hR z8=>?_;have:=E4 hT hd zb q _ S' a' w' (za.set zh) zf hR z8;rw[<-ze]at this;exact this
  ·refine Rp hT hd h.2.2.1 hs λS' a' w' hR z8=>?_;have:=E4 hT hd zb r _ S' a' w' (za.set zk) zj hR z8;rw[<-zd]at this;exact this
  refine Rp hT hd h.2.2.2 hs λS' a' w' hR z8=>?_;have:=E4 hT hd zb t _ S' a' w' (za.set zv) zu hR z8;rw[<-zl]at this;exact this
def Wh (hT:TOk P T) (hm:P.follows .mixedOrders=true) {Q:Exit->AS->Prop} {id:Nat} {l:List Oper} (Wr:List Nat) (p:PlanM) (hd:Yh nt l=true)
  (hp:(Region.noSelect l.toArray && p.size==l.length && W5 l.toArray (Yu l []) Wr p (wD l.length false))=true)
  (h:Q2 P T nt k l.toArray Wr.contains (Q .normal) p S):AWP P nt k (.region id l.toArray true) Q S:=λC a w hs=>by
 simp only[zX,beq_iff_eq]at hp;obtain⟨⟨h1,h2⟩,h3⟩:=hp;refine S1 (wpIn_region_any hm (Iy (Wr:=Wr) _ _ _ _ ?_));have zb:St C nt k S a { w with drawn:=w.drawn+1 }:=by
  obtain⟨I,m,hw,z1,hk,hE⟩:=hs;have hb:Below w.heap.size w { w with drawn:=w.drawn+1 }:=⟨rfl,rfl,rfl,zR _,λ_ _=>rfl⟩
  obtain⟨g1,g2⟩:=hw.step hb (λ_ h=>h) (λb z8=>⟨(hw.iw b z8).1,.inl z8⟩);exact⟨I,m,g1,⟨z1.1,z1.2.1,λt x hx=>by obtain⟨v,hv,hr⟩:=z1.2.2 t x hx;exact⟨v,hv,hr.mono g2 (zR _)⟩⟩,hk,hE.trans hk g2⟩
 have:=E4 hT (C:=C) (nt:=nt) (k:=k) (R:=Q .normal) (by simpa using hd) h1 p (wD l.length false) S a _ (λj o ho hj=>by
  have za:=(Array.getElem?_eq_some_iff.1 ho).1;simp at za;simp[za]at hj) (by simpa using h3) h zb
 rw[h2]at this;simpa using this
def Wu.mono{wr:Bool}{R':AS->Prop}(h:Wu P nt k wr ops o S R)(hr:∀S,R S->R' S):Wu P nt k wr ops o S R':=
 λC a w K Q hs hK=>h C a w K Q hs λS' a' w' hR=>hK S' a' w' (hr S' hR)
def q02{W:Nat->Bool}{i:Nat}{R':AS->Prop}(hr:∀S,R S->R' S)(h:stepT P T nt k ops W i R S):stepT P T nt k ops W i R' S:=by
 unfold stepT at h |-;split at h
 ·exact h
 split at h
 ·rename_i z1;rw[if_pos z1];split at h
  ·exact⟨h.1,hr _ h.2⟩
  exact h
 rename_i z1;rw[if_neg z1];exact h.mono hr
def Eg{W:Nat->Bool}{i:Nat}{R':AS->Prop}(hr:∀S,R S->R' S)(h:Re P T nt k ops W i R S):Re P T nt k ops W i R' S:=by
 unfold Re at h |-;split at h
 ·exact h
 split at h
 ·rename_i z1;rw[if_pos z1];split at h
  ·exact⟨h.1,hr _ h.2⟩
  exact h.mono hr
 rename_i z1;rw[if_neg z1];exact h.mono hr
def E6{W:Nat->Bool}{Q Q':AS->Prop}(hq:∀S,Q S->Q' S):∀(p:PlanM) (S:AS),Q2 P T nt k ops W Q p S->Q2 P T nt k ops W Q' p S
 | .done,S,h=>hq S h
 | .val i p,S,h=>q02 (λS=>E6 hq p S) h
 | .one i p,S,h=>Eg (λS=>E6 hq p S) h
 | .two i p j q,S,h=>⟨Eg (λS=>E6 hq p S) h.1,Eg (λS=>E6 hq q S) h.2⟩
 | .three i p j q m r,S,h=>⟨Eg (λS=>E6 hq p S) h.1,Eg (λS=>E6 hq q S) h.2.1,Eg (λS=>E6 hq r S) h.2.2⟩
 | .four i p j q m r n t,S,h=>⟨Eg (λS=>E6 hq p S) h.1,Eg (λS=>E6 hq q S) h.2.1,Eg (λS=>E6 hq r S) h.2.2.1,Eg (λS=>E6 hq t S) h.2.2.2⟩
def Gt(hT:TOk P T){wr:Bool}(hd:Ek nt o=true)(z1:Au o.op=true->wr=true)(hv:Ih o.op=true)(h:match Sv T ops S o with|some S'=>R S'|none=>False):Wu P nt k wr ops o S R:=by
 cases hs:Sv T ops S o with
 |none=>rw[hs]at h;exact h.elim
 |some S'=>rw[hs]at h;exact I3 hT hs hd z1 hv h
end
attribute [simp] Q2 AV.nrm AV.nrm1
end
section
open Go.RowKit
section
variable {P:Program} [Env P] {T:TT} {nt k:Nat} {S:AS} {ops:Array Oper} {o:Oper} {R:AS->Prop}
def j0i(z:Array Value)(n p j:Nat)(hp:p<n)(hj:j<z.size):(madeCells z (n * z.size))[p * z.size+j]? =z[j]? :=by
 have z1:p * z.size+j<n * z.size:=by have:(p+1) * z.size<=n * z.size:=zZ _ hp;rw[yA]at this;omega
 unfold madeCells;rw[Array.getElem?_map];simp only[Array.getElem?_range,z1];simp only[if_true,xU];rw[wA p,Nat.mul_add_mod,wn hj];simp[hj]
def Yj (hT:TOk P T) {wr:Bool} (hw:Q9 ops S o=some true) (hd:Ek nt o=true) {t e:TypeId} {l c:Operand} (ho:o.op= .makeSlice t l c) {it ei:TI} (ht:look T t=some it) (zj:it.desc= .slice e) (he:look T e=some ei)
  (hz:ei.zero.cells.size=ei.size) {kl kc:IntKind} {n:Nat} (hl:rho S.sl l=some (.int kl n)) (hc:rho S.sl c=some (.int kc n)) (hb:ei.bytes * n<=281474976710656) (hn:n<=maxLen) (z:AV) (zd:z.cells=ei.zeros)
  (hR:R (({ S with hp:=S.hp++[.arr e ei.size (zH n z)] }:AS).putD o.dst (.sl S.hp.length ei.size 0 n))):Wu P nt k wr ops o S R:=λC a w K Q ze hK=>by
 unfold OpW;rw[if_pos (ze.wanted hw)];obtain⟨I,m,zk,z8,zl,hE⟩:=ze;have zf:=hT.und ht;rw[zj]at zf;obtain⟨i,hi,i1,i2,i3⟩:=hT.info he;have zm:=(Qu z8 hl).int_inv;have zn:=(Qu z8 hc).int_inv;have zo:(n:Int)<=9223372036854775807:=by unfold maxLen at hn;omega
 have zp:(i.bytes:Int) * (n:Int)<=281474976710656:=by
  have h:((i.bytes * n:Nat):Int)<=281474976710656:=by rw[i3];omega
  rwa [Int.natCast_mul]at h
 have z1:=run_make (P:=P) w t e i ei.zero zf hi i1 kl kc n n (by omega) (wI _) zp zo;simp only[xn]at z1;rw[i2,<-hz]at z1;obtain⟨cs,za⟩:∃cs,madeCells ei.zero.cells (n * ei.zero.cells.size)=cs:=⟨_,rfl⟩
 have zg:cs.size=n * ei.size:=by rw[<-za,<-hz];simp[madeCells]
 have zb:∀p j,p<n->j<ei.size->cs[p * ei.size+j]? =ei.zero.cells[j]? :=λp j hp hj=>by rw[<-za,<-hz];exact j0i _ _ _ _ hp (by omega)
 rw[za]at z1;have zc:(execOp a.eval o).run P w= .ok (.value (.slice (some ⟨w.heap.size,0,none⟩) n n)) (w.alloc (.cells cs e)):=by simp[execOp,ho,zm,zn,z1]
 have zh:Below w.heap.size w (w.alloc (.cells cs e)):=(Below.refl _ _).alloc (zR _) _;have zi:z.cells.length=ei.size:=by rw[zd,TI.zeros,xp,Array.length_toList,hz]
 obtain⟨g1,g2⟩:=zk.push zh (some w.heap.size) (λb e=>by injection e with e;subst e;simp) (.arr e ei.size (zH n z)) (λm' hf hm=> .inr ⟨w.heap.size,n,cs,rfl,heap_alloc_new w _,by simp,hn,zg,
  λy hy=>by rw[List.eq_of_mem_replicate hy];exact zi,λp y hp j v hv=>by
   rw[xt]at hp;split at hp
   ·rename_i zq;obtain rfl:=Option.some.inj hp;have hj:j<ei.size:=by rw[<-zi];exact(zD.1 hv).1
    rw[zd,TI.zeros,zU]at hv;obtain⟨u,hu,rfl⟩:=zM.1 hv;rw[Array.getElem?_toList]at hu;exact⟨u,by rw[zb p j zq hj];exact hu,Y3 u⟩
   cases hp⟩)
 unfold wpA;rw[zc];refine hK _ _ _ hR (St.value z8 zl hE g1 g2 (by simp) (Qs hd) ?_) (λ_=>Tz.of_below zh);have:=VR.sl (w:=w.alloc (.cells cs e)) (I:=I) (m:=upd m S.hp.length (some w.heap.size)) (n:=S.hp.length+1) S.hp.length ei.size 0 n n w.heap.size e (by omega) (Q6 _ _ _)
  (by have:=heap_alloc_new w (.cells cs e);simp only[World.shape?,this,yW];rw[zg]) (zR _) (by omega)
 simpa using this
end
end
section
open Go.RowKit
section
variable {P:Program} [Env P] {nt k:Nat} {Q:Exit->AS->Prop}
def Sz{c:Code}{sl:List (Nat×AV)}{H:List AObj}(i:Nat){xs:List AV}(hi:H[i]?=some (.vars xs))(hp:xs.all AV.pure=true)(h:AWP P nt k c Q ⟨sl,H.set i (.vars (xs.map AV.nrm))⟩):AWP P nt k c Q ⟨sl,H⟩:=λC a w hs=>by
 obtain⟨I,m,hw,z1,hk,hf⟩:=hs;have hlen:(H.set i (.vars (xs.map AV.nrm))).length=H.length:=by simp
 obtain⟨b,t,vs,hb,hh,z8,hr⟩:=hw.obj i _ hi;obtain⟨g1,g2⟩:=hw.set (w':=w) (o':= .vars (xs.map AV.nrm)) hi rfl hb (World.grownBy.refl _ _) (λ_ h=>h) (λm' zb=>⟨b,t,vs,rfl,hh,by simp[z8],λj v x hv hx=>by
  rw[zU]at hx;obtain⟨y,hy,rfl⟩:=zM.1 hx;exact .pure ((hr j v y hv hy).toPure (zV.1 hp y (zE hy))).nrm⟩)
 refine h C a w ⟨I,m,g1,⟨z1.1,z1.2.1,λt x hx=>?_⟩,by rw[hlen];exact hk,hf⟩;obtain⟨v,hv,za⟩:=z1.2.2 t x hx;exact⟨v,hv,by simpa using za⟩
def St.freeze1{C:Cx P}{a:Act}{w:World}{sl:List (Nat×AV)}{H:List AObj}(hs:St C nt k ⟨sl,H⟩ a w)(i:Nat){e c:Nat}{xs:List AV}(hi:H[i]?=some (.arr e c xs)):
  St C nt k ⟨sl.map λp=>(p.1,p.2.fz i c xs),H.set i .dead⟩ a w:=by
 obtain⟨I,m,hw,za,hk,hf⟩:=hs;have zb:Ext w w I (λb=>I b\/m i=some b):=⟨λ_ h=> .inl h,λ_ _=>rfl⟩
 have z8:Fut H.length w I m w (λb=>I b\/m i=some b) m:=⟨zb,λ_ _=>rfl,λ_ _ h=>h⟩
 have hlen:(H.set i .dead).length=H.length:=by simp
 have z1:∀(id:Nat) (o:AObj),(H.set i .dead)[id]?=some o->o.live=true->id≠i/\H[id]?=some o:=λid o ho hl=>by
  by_cases hid:id=i
  ·subst hid;rw[zJ (zD.1 hi).1]at ho;cases ho;simp[AObj.live]at hl
  rw[zI (by omega)]at ho;exact⟨hid,ho⟩
 refine⟨λb=>I b\/m i=some b,m,⟨hw.below,λb hb=> .inl (hw.i0 b hb),λb hb=>?_,λid o ho=>?_,λid o b ho hl hm=>?_,λa b oa ob d ha hb la lb ma mb=>?_⟩,⟨za.1,za.2.1,λt x hx=>?_⟩,by rw[hlen];exact hk,hf.trans hk z8⟩
 ·rcases hb with hb|hb
  ·exact hw.iw b hb
  have:=hw.own i _ b hi rfl hb;exact⟨this.2.2,.inr this.1⟩
 ·rw[hlen];by_cases hid:id=i
  ·subst hid;rw[zJ (zD.1 hi).1]at ho;cases ho;trivial
  rw[zI (by omega)]at ho;exact Uq.mono (hw.obj id o ho) z8 (zR _) (λ_ _ _=>rfl)
 ·obtain⟨zd,zc⟩:=z1 id o ho hl;have h1:=hw.own id o b zc hl hm;refine⟨h1.1,λhc=>?_,h1.2.2⟩;rcases hc with hc|hc
  ·exact h1.2.1 hc
  exact zd (hw.inj id i o _ b zc hi hl rfl hm hc)
 ·obtain⟨_,ze⟩:=z1 a oa ha la;obtain⟨_,zf⟩:=z1 b ob hb lb;exact hw.inj a b oa ob d ze zf la lb ma mb
 rw[hlen];have:=As hx;obtain⟨y,hy,rfl⟩:=this;obtain⟨v,hv,hr⟩:=za.2.2 t y hy;exact⟨v,hv,hr.fz hw hi⟩
def Eb{cd:Code}{sl:List (Nat×AV)}{H:List AObj}(i:Nat){e c:Nat}{xs:List AV}(hi:H[i]?=some (.arr e c xs))(h:AWP P nt k cd Q ⟨sl.map λp=>(p.1,p.2.fz i c xs),H.set i .dead⟩):AWP P nt k cd Q ⟨sl,H⟩:=
 λC a w hs=>h C a w (hs.freeze1 i hi)
def Ws{wr:Bool}{ops:Array Oper}{o:Oper}{R:AS->Prop}{sl:List (Nat×AV)}{H:List AObj}(i:Nat){e c:Nat}{xs:List AV}(hi:H[i]?=some (.arr e c xs))(h:Wu P nt k wr ops o ⟨sl.map λp=>(p.1,p.2.fz i c xs),H.set i .dead⟩ R):Wu P nt k wr ops o ⟨sl,H⟩ R:=
 λC a w K Q hs=>h C a w K Q (hs.freeze1 i hi)
def St.freezeC{C:Cx P}{a:Act}{w:World}{sl:List (Nat×AV)}{H:List AObj}(hs:St C nt k ⟨sl,H⟩ a w)(i:Nat){e c:Nat}{xs:List AV}(hi:H[i]?=some (.arr e c xs))(t:Nat){cs:List AV}(ht:H[t]?=some (.vars cs)):
  St C nt k ⟨sl.map λp=>(p.1,p.2.fz i c xs),(H.set i .dead).set t (.vars (cs.map λx=>x.fz i c xs))⟩ a w:=by
 obtain⟨I,m,hw,za,hk,hf⟩:=hs;have zc:t≠i:=λh=>by rw[h,hi]at ht;cases ht
 have ze:t<H.length:=(zD.1 ht).1;have zb:Ext w w I (λb=>I b\/m i=some b):=⟨λ_ h=> .inl h,λ_ _=>rfl⟩
 have z8:Fut H.length w I m w (λb=>I b\/m i=some b) m:=⟨zb,λ_ _=>rfl,λ_ _ h=>h⟩
 have hlen:((H.set i .dead).set t (.vars (cs.map λx=>x.fz i c xs))).length=H.length:=by simp
 have z1:∀(id:Nat) (o:AObj),((H.set i .dead).set t (.vars (cs.map λx=>x.fz i c xs)))[id]?=some o->o.live=true->id≠i/\∃o',H[id]?=some o'/\o'.live=true:=λid o ho hl=>by
  by_cases hid:id=i
  ·subst hid;rw[zI zc,zJ (zD.1 hi).1]at ho;cases ho;simp[AObj.live]at hl
  by_cases hit:id=t
  ·subst hit;exact⟨hid,_,ht,rfl⟩
  rw[zI (by omega),zI (by omega)]at ho;exact⟨hid,_,ho,hl⟩
 refine⟨λb=>I b\/m i=some b,m,⟨hw.below,λb hb=> .inl (hw.i0 b hb),λb hb=>?_,λid o ho=>?_,λid o b ho hl hm=>?_,λa b oa ob d ha hb la lb ma mb=>?_⟩,⟨za.1,za.2.1,λt x hx=>?_⟩,by rw[hlen];exact hk,hf.trans hk z8⟩
 ·rcases hb with hb|hb
  ·exact hw.iw b hb
  have:=hw.own i _ b hi rfl hb;exact⟨this.2.2,.inr this.1⟩
 ·rw[hlen];by_cases hid:id=i
  ·subst hid;rw[zI zc,zJ (zD.1 hi).1]at ho;cases ho;trivial
  by_cases hit:id=t
  ·subst hit;rw[zJ (by simpa using ze)]at ho;cases ho;exact(hw.obj id _ ht).fz hw hi
  rw[zI (by omega),zI (by omega)]at ho;exact Uq.mono (hw.obj id o ho) z8 (zR _) (λ_ _ _=>rfl)
 ·obtain⟨zf,o',zd,hl'⟩:=z1 id o ho hl;have h1:=hw.own id o' b zd hl' hm;refine⟨h1.1,λhc=>?_,h1.2.2⟩;rcases hc with hc|hc
  ·exact h1.2.1 hc
  exact zf (hw.inj id i o' _ b zd hi hl' rfl hm hc)
 ·obtain⟨_,zg,zh,zi⟩:=z1 a oa ha la;obtain⟨_,zj,zk,zl⟩:=z1 b ob hb lb;exact hw.inj a b zg zj d zh zk zi zl ma mb
 rw[hlen];have:=As hx;obtain⟨y,hy,rfl⟩:=this;obtain⟨v,hv,hr⟩:=za.2.2 t y hy;exact⟨v,hv,hr.fz hw hi⟩
def Ey{cd:Code}{sl:List (Nat×AV)}{H:List AObj}(i:Nat){e c:Nat}{xs:List AV}(hi:H[i]?=some (.arr e c xs))(t:Nat){cs:List AV}(ht:H[t]?=some (.vars cs))(h:AWP P nt k cd Q ⟨sl.map λp=>(p.1,p.2.fz i c xs),(H.set i .dead).set t (.vars (cs.map λx=>x.fz i c xs))⟩):AWP P nt k cd Q ⟨sl,H⟩:=
 λC a w hs=>h C a w (hs.freezeC i hi t ht)
end
end
section
open Go.RowKit
def Zx(x:AV):x.nrm.cells.length=x.cells.length/\∀(j:Nat) (y':AV),x.nrm.cells[j]?=some y'->∃y,x.cells[j]?=some y/\∀(w:World) (I:Nat->Prop) (v:Value),PVR w I v y->PVR w I v y':=by
 cases x with
 |agg cs=>refine⟨by simp[AV.nrm,AV.cells],λj y' h=>?_⟩;simp only[AV.nrm,AV.cells,zU]at h;obtain⟨y,hy,rfl⟩:=zM.1 h;exact⟨y,hy,λw I v h=>h.nrm1⟩
 |nils=>
  refine⟨rfl,λj y' h=>?_⟩;cases j with
  |zero=>cases h;exact⟨.nils,rfl,λw I v h=>h.nrm1⟩
  |succ j=>cases h
 |fn f xs ys=>
  refine⟨rfl,λj y' h=>?_⟩;cases j with
  |zero=>cases h;exact⟨.fn f xs ys,rfl,λw I v h=>h.nrm⟩
  |succ j=>cases h
 |_=>exact⟨rfl,λj y' h=>⟨y',h,λw I v h=>h⟩⟩
def AV.nrmL:AV->AV
 | .list xs=> .list (xs.map AV.nrm)
 |x=>x
section
variable {P:Program} [Env P] {nt k:Nat} {Q:Exit->AS->Prop}
end
attribute [simp] AV.nrmL
end
section
open Go.RowKit
section
variable {P:Program} [Env P] {T:TT} {nt k:Nat} {S:AS} {ops:Array Oper} {o:Oper} {R:AS->Prop}
section
variable {W0 w w':World} {I0 I:Nat->Prop} {m:Nat->Option Nat} {H:List AObj}
def Uk(H:List AObj):AV->Option (List AV)
 | .list ys=>some ys
 | .sl id c lo len=>match H[id]? with
  |some (.arr _ c' xs)=>if c=c'/\lo+len<=xs.length then some ((xs.drop lo).take len)else none
  |some (.va _ c' xs)=>if c=c'/\lo+len<=xs.length then some ((xs.drop lo).take len)else none
  |_=>none
 | .nils=>some []
 |_=>none
def Ct(hw:WS W0 I0 w I m H){v:Value}{x:AV}{ys:List AV}(hv:VR w I m H.length v x)(h:Uk H x=some ys):
  ∃(ao:Option Addr) (cap:Nat) (u:Nat->Nat->Value),v= .slice ao ys.length cap/\
   (0<ys.length->∃ad,ao=some ad/\∃c,(∀y∈ys,y.cells.length=c)/\∀i j,i<ys.length->j<c->w.cell? (ad.add (i * c+j))=some (u i j))/\
   (∀(i:Nat) (x:AV),ys[i]?=some x->∀(j:Nat) (y:AV),x.cells[j]?=some y->VR w I m H.length (u i j) y):=by
 cases x with
 |list zs=>simp only[Uk,Option.some.injEq]at h;subst h;obtain⟨a,cap,c,u,rfl,_,_,hc,ha,hu⟩:=hv.list_inv.list_inv;exact⟨a,cap,u,rfl,λh0=>by obtain⟨ad,e,_,hcell⟩:=ha h0;exact⟨ad,e,c,hc,hcell⟩,λi x hx j y hy=> .pure (hu i x hx j y hy)⟩
 |nils=>simp only[Uk,Option.some.injEq]at h;subst h;obtain rfl:=hv.nils_inv;exact⟨none,0,λ_ _=>undef,rfl,λh0=>by simp at h0,λi x hx=>by simp at hx⟩
 |sl id c lo len=>
  simp only[Uk]at h;split at h
  ·rename_i e c' xs ho;split at h
   ·rename_i hc;obtain⟨rfl,hl⟩:=hc;simp only[Option.some.injEq]at h;subst h;have hlen:((xs.drop lo).take len).length=len:=by simp;omega
    rcases hv.sl_inv with⟨b,cap,t,hb,hn,hs,hl',hmax,rfl⟩|⟨hb,hn,rfl,rfl,rfl⟩|⟨ad,hn,hlo,rfl,rfl⟩
    ·rcases hw.obj id _ ho with⟨e1,rfl⟩|⟨b',z1,vs,z8,hh,q1,q2,q3,q4,hr⟩
     ·rw[hb]at e1;cases e1
     obtain rfl:b=b':=by rw[hb]at z8;exact Option.some.inj z8
     refine⟨_,cap,λi j=>vs.getD ((lo+i) * c+j) undef,by rw[hlen],λ_=>⟨_,rfl,c,λx hx=>q4 x (wd (xL hx)),λi j hi hj=>?_⟩,λi x hx j z hz=>?_⟩
     ·rw[hlen]at hi;rw[Addr.add_lit,cell_of_row w b _ vs e (0,0) hh];simp only[yA];have za:(lo+i) * c+j<vs.size:=by rw[q3];have:(lo+i+1) * c<=z1 * c:=zZ c (by omega);rw[yA (lo+i)]at this;omega
      rw[yA]at za;rw[show lo * c+(i * c+j)=lo * c+i * c+j by omega];simp[za]
     rw[yJ]at hx;split at hx
     ·rw[yX]at hx;obtain⟨v,hv,hp⟩:=hr (lo+i) x hx j z hz;simp only[xN,hv,xQ];exact .pure hp
     cases hx
    ·exact⟨none,0,λ_ _=>undef,by rw[hlen],λh0=>by simp at h0,λi x hx=>by simp at hx⟩
    exact⟨some ad,0,λ_ _=>undef,by rw[hlen],λh0=>by simp at h0,λi x hx=>by simp at hx⟩
   cases h
  ·rename_i e c' xs ho;split at h
   ·rename_i hc;obtain⟨rfl,hl⟩:=hc;simp only[Option.some.injEq]at h;subst h;have hlen:((xs.drop lo).take len).length=len:=by simp;omega
    rcases hv.sl_inv with⟨b,cap,t,hb,hn,hs,hl',hmax,rfl⟩|⟨hb,hn,rfl,rfl,rfl⟩|⟨ad,hn,hlo,rfl,rfl⟩
    ·rcases hw.obj id _ ho with⟨e1,rfl⟩|⟨b',z1,vs,z8,hh,q1,q2,q3,q4,hr⟩
     ·rw[hb]at e1;cases e1
     obtain rfl:b=b':=by rw[hb]at z8;exact Option.some.inj z8
     refine⟨_,cap,λi j=>vs.getD ((lo+i) * c+j) undef,by rw[hlen],λ_=>⟨_,rfl,c,λx hx=>q4 x (wd (xL hx)),λi j hi hj=>?_⟩,λi x hx j z hz=>?_⟩
     ·rw[hlen]at hi;rw[Addr.add_lit,cell_of_row w b _ vs e (0,0) hh];simp only[yA];have za:(lo+i) * c+j<vs.size:=by rw[q3];have:(lo+i+1) * c<=z1 * c:=zZ c (by omega);rw[yA (lo+i)]at this;omega
      rw[yA]at za;rw[show lo * c+(i * c+j)=lo * c+i * c+j by omega];simp[za]
     rw[yJ]at hx;split at hx
     ·rw[yX]at hx;obtain⟨v,hv,hp⟩:=hr (lo+i) x hx j z hz;simp only[xN,hv,xQ];exact hp
     cases hx
    ·exact⟨none,0,λ_ _=>undef,by rw[hlen],λh0=>by simp at h0,λi x hx=>by simp at hx⟩
    exact⟨some ad,0,λ_ _=>undef,by rw[hlen],λh0=>by simp at h0,λi x hx=>by simp at hx⟩
   cases h
  cases h
 |_=>simp[Uk]at h
end
def En(S:AS)(e:TypeId)(c:Nat):AV->Option (List AV×List AObj)
 | .nils=>some ([],S.hp)
 | .sl id c' 0 len=>match S.hp[id]? with
  |some (.va e' c'' xs)=>if c'=c/\c''=c/\e'=e/\len=xs.length then some (xs,S.hp.set id .dead)else none
  |_=>none
 |_=>none
def Jj (hT:TOk P T) (hw:Q9 ops S o=some true) {s x:Operand} {t e:TypeId} (ho:o.op= .call ⟨.builtin .append,#[s,x],#[t,t]⟩) {it ei:TI} (ht:look T t=some it) (y8:it.desc= .slice e) (he:look T e=some ei)
  (hz:ei.zero.cells.size=ei.size) (y9:0<ei.size) {sv xv:AV} (hs:rho S.sl s=some sv) (hx:rho S.sl x=some xv) {xs ys:List AV} {H1:List AObj} (hb:En S e ei.size sv=some (xs,H1)) (hy:Uk S.hp xv=some ys)
  (zx:∀y∈ys,y.cells.length=ei.size/\y.cells.all AV.leaf=true) (hbound:(xs.length+ys.length) * ei.bytes<=140737488355328) (hlen:xs.length+ys.length<=9223372036854775807) (hd:Ek nt o=true)
  (hR:R (({ S with hp:=H1++[.va e ei.size (xs++ys)] }:AS).putD o.dst (.sl S.hp.length ei.size 0 (xs.length+ys.length)))):Wu P nt k true ops o S R:=λC a w K Q zy hK=>by
 unfold OpW;rw[if_pos (zy.wanted hw)];obtain⟨I,m,ze,zt,hk,hE⟩:=zy;obtain⟨ao,cap,u,zn,hcell,zz⟩:=Ct ze (Qu zt hx) hy;have y0:=Qu zt hs;obtain⟨ti,zo,tz,ts,tb⟩:=hT.info he;have zk:=hT.und ht;rw[y8]at zk;have zl:H1.length=S.hp.length:=by
  unfold En at hb;split at hb
  ·simp only[Option.some.injEq,Prod.mk.injEq]at hb;rw[<-hb.2]
  ·split at hb
   ·split at hb
    ·simp only[Option.some.injEq,Prod.mk.injEq]at hb;rw[<-hb.2];simp
    cases hb
   cases hb
  cases hb
 -- what the run comes to decides all
 have fin:∀(v:Value) (w':World) (m':Nat->Option Nat),(Builtin.append_ #[t,t] o.type #[a.eval s,a.eval x]).run P w= .ok v w'->WS C.W0 C.I0 w' I m' (H1++[.va e ei.size (xs++ys)])->Fut S.hp.length w I m w' I m'->
   VR w' I m' (S.hp.length+1) v (.sl S.hp.length ei.size 0 (xs.length+ys.length))->wpA P o a w K Q:=λv w' m' z8 g1 g2 g3=>by
  unfold wpA;have:(execOp a.eval o).run P w= .ok (.value v) w':=by simp[execOp,ho,resolve,invoke,builtin,z8]
  rw[this];exact hK _ _ w' hR (St.value zt hk hE g1 g2 (by simp[zl]) (Qs hd) (by simpa[zl]using g3)) (λe=>by cases e)
 -- nothing is appended
 have zero:ys=[]->∀(b0:Option Addr) (n0 c0:Nat),n0<=c0->a.eval s= .slice b0 n0 c0->(Builtin.append_ #[t,t] o.type #[a.eval s,a.eval x]).run P w= .ok (.slice b0 n0 c0) w:=λzb b0 n0 c0 hle zp=>by rw[zp,zn,zb];cases ao<;>cases b0<;>simp[Builtin.append_,run_underlying zk,sizeOf,typeInfo,zo,Builtin.lenOf,Builtin.firstCells,hle,loadCells,loadCellsFrom,storeCells]
 -- a new row
 have newrow:∀(za:Nat) (cs:Array Value),xs.length+ys.length<=za->za<=maxLen->cs.size=za * ei.size->
   (∀(i:Nat) (z:AV),(xs++ys)[i]?=some z->z.cells.length=ei.size/\∀(j:Nat) (y:AV),z.cells[j]?=some y->∃v,cs[i * ei.size+j]?=some v/\VR w I m S.hp.length v y)->
   (Builtin.append_ #[t,t] o.type #[a.eval s,a.eval x]).run P w= .ok (.slice (some ⟨w.heap.size,0,none⟩) (xs.length+ys.length) za) (w.drew.alloc (.cells cs e))->WS C.W0 C.I0 w I m H1->wpA P o a w K Q:=λza cs h1 h2 h3 h4 z8 hw1=>by
  have ya:Below w.heap.size w (w.drew.alloc (.cells cs e)):=(Below.refl _ _).drew.alloc (zR _) _;obtain⟨g1,g2⟩:=hw1.push ya (some w.heap.size) (λb e=>by injection e with e;subst e;simp) (.va e ei.size (xs++ys)) (λm' hf hm=> .inr ⟨w.heap.size,za,cs,rfl,heap_alloc_new w.drew _,by simpa using h1,h2,h3,
   λz zf=>by obtain⟨i,hi⟩:=xm.1 zf;exact(h4 i z hi).1,λi z hi j y hy=>by obtain⟨v,q1,q2⟩:=(h4 i z hi).2 j y hy;exact⟨v,q1,q2.mono (by rw[<-zl];exact hf) (by omega)⟩⟩)
  rw[zl]at g1 g2;refine fin _ _ _ z8 g1 g2 ?_;have:=VR.sl (w:=w.drew.alloc (.cells cs e)) (I:=I) (m:=upd m S.hp.length (some w.heap.size)) (n:=S.hp.length+1) S.hp.length ei.size 0 (xs.length+ys.length) za w.heap.size e (by omega) (Q6 _ _ _)
   (by have:=heap_alloc_new w.drew (.cells cs e);simp only[World.size_drew]at this;simp only[World.shape?,this,h3,yW]) h1 (by omega)
  simpa using this
 have zi:∀y∈ys,y.cells.length=ei.size:=λy hy=>(zx y hy).1;have news:0<ys.length->∃ad,ao=some ad/\∀(q:Nat) (v:Value),(Qm u ys.length ei.size)[q]?=some v->w.cell? (ad.add q)=some v:=λh0=>by
  obtain⟨ad,e1,c,h1,h2⟩:=hcell h0;have hc:c=ei.size:=by rw[<-h1 _ (yB h0),zi _ (yB h0)]
  subst hc;refine⟨ad,e1,λq v hq=>?_⟩;obtain⟨_,_,q1,q2,q3,rfl⟩:=Ro _ _ _ _ _ hq;have:=h2 _ _ q1 q2;rw[<-q3]at this;exact this
 have one:∀v∈Qm u ys.length ei.size,v.oneCell'=true:=λv hv=>by obtain⟨q,hq⟩:=xm.1 hv;obtain⟨_,_,q1,q2,q3,rfl⟩:=Ro _ _ _ _ _ hq;have yb:ys[q / ei.size]?=some ys[q / ei.size]:=zG q1;have yj:=zi _ (yB q1);have y5:(ys[q / ei.size]).cells[q % ei.size]?=some ((ys[q / ei.size]).cells[q % ei.size]'(by omega)):=zG (by omega);exact(zz _ _ yb _ _ y5).oneCell (zV.1 (zx _ (yB q1)).2 _ (zE y5))
 have yrel:∀(i:Nat) (z:AV),ys[i]?=some z->∀(j:Nat) (y:AV),z.cells[j]?=some y->(Qm u ys.length ei.size)[i * ei.size+j]?=some (u i j)/\VR w I m S.hp.length (u i j) y:=λi z zf j y hy=>by have hi:=(zD.1 zf).1;have hj:=(zD.1 hy).1;rw[zi z (zE zf)]at hj;exact⟨Th _ _ _ _ _ hi hj,zz i z zf j y hy⟩
 have capw:∀zq,xs.length+ys.length<=grownCap w (xs.length+ys.length) zq e/\grownCap w (xs.length+ys.length) zq e<=maxLen:=λzq=>
  ⟨grownCap_ge _ _ _ _,grownCap_le_maxLen w _ zq e (by unfold maxLen;omega)⟩
 have fromNone:a.eval s= .slice none 0 0->xs=[]->WS C.W0 C.I0 w I m H1->wpA P o a w K Q:=λzp yc hw1=>by
  subst yc;rcases xz ys.length with h0|h0
  ·have zb:=xi h0;have z8:=zero zb none 0 0 (zR _) zp;obtain⟨g1,g2⟩:=hw1.push (Below.refl _ _) none (λb e=>by cases e) (.va e ei.size ([]++ys)) (λm' _ _=> .inl ⟨rfl,by simp[zb]⟩);rw[zl]at g1 g2;refine fin _ _ _ z8 g1 g2 ?_;rw[h0];exact .slnone _ _ (by omega) (Q6 _ _ _)
  obtain⟨ad,rfl,zc⟩:=news h0;have z8:=run_append_nil (P:=P) w t o.type e ti ei.zero zk zo tz ad ys.length cap (Qm u ys.length ei.size) (by rw[Qn,ts]) zc h0 (by simp at hlen;omega) (by rw[tb];simp at hbound;omega);obtain⟨c1,c2⟩:=capw 0;simp only[wH,yW]at c1 c2;refine newrow (grownCap w ys.length 0 e) _ (by simpa using c1) c2 ?_ ?_ (by rw[zp,zn];simpa using z8) hw1
  ·have key:∀cs:Array Value,cs.size=ei.size->((Qm u ys.length ei.size).toArray++Builtin.zeroCells cs (grownCap w ys.length 0 e - ys.length)).size=grownCap w ys.length 0 e * ei.size:=λcs yd=>by
    simp only[xq,yG,Qn,size_zeroCells,yd,<-yA]
    congr 1;omega
   exact key _ hz
  intro i z hi;simp only[wo]at hi;refine⟨zi z (zE hi),λj y hy=>?_⟩;obtain⟨q1,q2⟩:=yrel i z hi j y hy;exact⟨_,by rw[yK (by simpa using(zD.1 q1).1)];simpa using q1,q2⟩
 unfold En at hb;split at hb
 ·simp only[Option.some.injEq,Prod.mk.injEq]at hb;obtain⟨rfl,rfl⟩:=hb;exact fromNone y0.nils_inv rfl ze
 ·rename_i id c' len;split at hb
  ·rename_i e' c'' z1 zr;split at hb
   ·rename_i hc;obtain⟨rfl,rfl,rfl,rfl⟩:=hc;simp only[Option.some.injEq,Prod.mk.injEq]at hb;obtain⟨rfl,rfl⟩:=hb;have zd:=ze.kill id;rcases y0.sl_inv with⟨b,cp,t',hb,hn,zu,hl',hmax,zj⟩|⟨hb,hn,_,yk,zj⟩|⟨ad,hn,hlo,_,_⟩
    ·rcases ze.obj id _ zr with⟨e1,_⟩|⟨b',ye,vs,zm,hh,q1,q2,q3,q4,hr⟩
     ·rw[hb]at e1;cases e1
     obtain rfl:b=b':=by rw[hb]at zm;exact Option.some.inj zm
     have yf:cp=ye:=by
      have:w.shape? b=some (e',vs.size):=by simp[World.shape?,hh]
      rw[this]at zu;simp only[Option.some.injEq,Prod.mk.injEq,yW,q3]at zu;exact(Nat.eq_of_mul_eq_mul_right y9 zu.2).symm
     subst yf;simp only[vx]at zj;have xrel:∀(i:Nat) (z:AV),z1[i]?=some z->∀j,j<ei.size->i * ei.size+j<z1.length * ei.size:=λi z hi j hj=>by have:(i+1) * ei.size<=z1.length * ei.size:=zZ _ (zD.1 hi).1;rw[yA]at this;omega
     have yg:z1.length * ei.size<=vs.size:=by rw[q3];exact zZ _ q1
     have y6:∀(w':World),w'.shape? b=some (e',cp * ei.size)->z1.length+ys.length<=cp->VR w' I (upd m S.hp.length (some b)) (S.hp.length+1) (.slice (some ⟨b,0,none⟩) (z1.length+ys.length) cp) (.sl S.hp.length ei.size 0 (z1.length+ys.length)):=λw' yh hle=>by have:=VR.sl (w:=w') (I:=I) (m:=upd m S.hp.length (some b)) (n:=S.hp.length+1) S.hp.length ei.size 0 (z1.length+ys.length) cp b e' (by omega) (Q6 _ _ _) (by simpa using yh) hle (by omega);simpa using this
     rcases xz ys.length with h0|h0
     ·have zb:=xi h0;have z8:=zero zb _ _ _ hl' zj;obtain⟨g1,g2⟩:=ze.adopt (w':=w) (o':= .va e' ei.size (z1++ys)) zr rfl hb (World.grownBy.refl _ _) (λ_ h=>h) (λm' hf=> .inr ⟨b,cp,vs,rfl,hh,by simp[zb,q1],q2,q3,by simpa[zb]using q4,λi z hi j y hy=>by obtain⟨v,p1,p2⟩:=hr i z (by simpa[zb]using hi) j y hy;exact⟨v,p1,p2.mono hf (vF _)⟩⟩);refine fin _ _ _ z8 g1 g2 ?_;have:=y6 w (by simp[World.shape?,hh,q3]) (by omega);rw[h0]at this |-;exact this
     obtain⟨ad,rfl,zc⟩:=news h0;by_cases hroom:z1.length+ys.length<=cp
     ·have zg:z1.length * ti.size+(Qm u ys.length ei.size).length<=vs.size:=by rw[Qn,ts,q3,<-yA];exact zZ _ hroom
      have z8:=run_append_room (P:=P) w t o.type e' ti zk zo b z1.length cp vs hh ad ys.length cap (Qm u ys.length ei.size) (by rw[Qn,ts]) zc one hroom zg;rw[ts]at z8 zg;have zv:(vs.toList.take (z1.length * ei.size)++Qm u ys.length ei.size++vs.toList.drop (z1.length * ei.size+(Qm u ys.length ei.size).length)).toArray=spl vs (z1.length * ei.size) (Qm u ys.length ei.size).toArray:=by simp[spl]
      rw[zv]at z8;have y7:z1.length * ei.size+(Qm u ys.length ei.size).toArray.size<=vs.size:=by simpa using zg
      have zh:=Tm vs (z1.length * ei.size) (Qm u ys.length ei.size).toArray y7;obtain⟨g1,g2⟩:=ze.adopt (o':= .va e' ei.size (z1++ys)) zr rfl hb (Ee w b (spl vs (z1.length * ei.size) (Qm u ys.length ei.size).toArray)) (Ri hh zh)
       (λm' hf=> .inr ⟨b,cp,_,rfl,setRow_heap w b vs _ e' _ hh,by simpa using hroom,q2,by rw[zh,q3],λz zf=>by
         rcases xu.1 zf with h1|h1
         ·exact q4 z h1
         ·exact zi z h1,λi z hi j y hy=>by
         rw[Oz _ _ _ _ y7];by_cases hix:i<z1.length
         ·rw[zK hix]at hi;have hj:j<ei.size:=by have:=(zD.1 hy).1;rw[q4 z (zE hi)]at this;exact this
          have:=xrel i z hi j hj;rw[if_neg (by omega)];obtain⟨v,p1,p2⟩:=hr i z hi j y hy;exact⟨v,p1,p2.mono hf (vF _)⟩
         rw[zF (by omega)]at hi;obtain⟨p1,p2⟩:=yrel _ z hi j y hy;have p3:=(zD.1 p1).1;have p4:i * ei.size=z1.length * ei.size+(i - z1.length) * ei.size:=by rw[<-yA];congr 1;omega
         rw[if_pos (by simp only[yG];omega)];exact⟨_,by rw[show i * ei.size+j - z1.length * ei.size=(i - z1.length) * ei.size+j by omega];simpa using p1,p2.mono hf (vF _)⟩⟩)
      refine fin _ _ _ (by rw[zj,zn];exact z8) g1 g2 (y6 _ ?_ hroom);simp[World.shape?,setRow_heap w b vs _ e' _ hh,zh,q3]
     have holds:∀(j:Nat) (v:Value),(vs.toList.take (z1.length * ei.size))[j]?=some v->w.cell? ((⟨b,0,none⟩:Addr).add j)=some v:=λj v hj=>by
      rw[Addr.add_lit,yW,cell_of_row w b j vs e' (0,0) hh];rw[yJ]at hj;split at hj
      ·simpa using hj
      cases hj
     have z8:=run_append_grow (P:=P) w t o.type e' ti ei.zero zk zo tz ⟨b,0,none⟩ z1.length cp (vs.toList.take (z1.length * ei.size)) (by rw[ts];simp;omega) holds ad ys.length cap (Qm u ys.length ei.size) (by rw[Qn,ts]) zc (by omega) (by omega)
      (growslice_fits (by omega) (by rw[tb];exact hbound))
     obtain⟨c1,c2⟩:=capw cp;refine newrow _ _ c1 c2 ?_ ?_ (by rw[zj,zn];exact z8) zd
     ·have:(vs.toList.take (z1.length * ei.size)).length=z1.length * ei.size:=by simp;omega
      simp only[xq,yG,Qn,size_zeroCells,hz,this,<-yA]
      congr 1;omega
     intro i z hi;have zw:(vs.toList.take (z1.length * ei.size)).length=z1.length * ei.size:=by simp;omega
     by_cases hix:i<z1.length
     ·rw[zK hix]at hi;refine⟨q4 z (zE hi),λj y hy=>?_⟩;have hj:j<ei.size:=by have:=(zD.1 hy).1;rw[q4 z (zE hi)]at this;exact this
      have yi:=xrel i z hi j hj;obtain⟨v,p1,p2⟩:=hr i z hi j y hy;refine⟨v,?_,p2⟩;rw[yK (by simp;omega),yK (by simp;omega),List.getElem?_toArray,yJ,if_pos yi];simpa using p1
     rw[zF (by omega)]at hi;refine⟨zi z (zE hi),λj y hy=>?_⟩;obtain⟨p1,p2⟩:=yrel _ z hi j y hy;have p3:=(zD.1 p1).1;have p4:i * ei.size=z1.length * ei.size+(i - z1.length) * ei.size:=by rw[<-yA];congr 1;omega
     refine⟨_,?_,p2⟩;rw[yK (by simp only[xq,yG,zw];omega),Array.getElem?_append_right (by simp only[yG,zw];omega)];simp only[yG,zw];rw[show i * ei.size+j - z1.length * ei.size=(i - z1.length) * ei.size+j by omega];simpa using p1
    ·rcases ze.obj id _ zr with⟨_,e1⟩|⟨b',_,_,zm,_⟩
     ·exact fromNone zj e1 zd
     rw[hb]at zm;cases zm
    omega
   cases hb
  cases hb
 cases hb
end
end
section
open Go.RowKit
section
variable {P:Program} [Env P] {T:TT} {nt k:Nat} {S:AS} {ops:Array Oper} {o:Oper} {R:AS->Prop}
def Wi (hT:TOk P T) (hw:Q9 ops S o=some true) {s x:Operand} {t e:TypeId} (ho:o.op= .call ⟨.builtin .append,#[s,x],#[t,t]⟩) {it ei:TI} (ht:look T t=some it) (z1:it.desc= .slice e) (he:look T e=some ei)
  (hz:ei.zero.cells.size=ei.size) (z8:0<ei.size) (za:0<ei.bytes) {sv xv:AV} (hs:rho S.sl s=some sv) (hx:rho S.sl x=some xv) (hd:Ek nt o=true)
  (hR:match En S e ei.size sv,Uk S.hp xv with
   |some (xs,H1),some ys=>Em ei xs ys/\R (({ S with hp:=H1++[.va e ei.size (xs++ys)] }:AS).putD o.dst (.sl S.hp.length ei.size 0 (xs.length+ys.length)))
   |_,_=>False):Wu P nt k true ops o S R:=by
 cases hb:En S e ei.size sv with
 |none=>rw[hb]at hR;exact hR.elim
 |some p=>
  obtain⟨xs,H1⟩:=p;cases hy:Uk S.hp xv with
  |none=>rw[hb,hy]at hR;exact hR.elim
  |some ys=>rw[hb,hy]at hR;obtain⟨⟨h1,h2⟩,h3⟩:=hR;refine Jj hT hw ho ht z1 he hz z8 hs hx hb hy h1 h2 ?_ hd h3;have:=Nat.le_mul_of_pos_right (xs.length+ys.length) za;omega
def WS.swap{W0 w:World}{I0 I:Nat->Prop}{m:Nat->Option Nat}{H:List AObj}(h:WS W0 I0 w I m H){i:Nat}{o o':AObj}(hi:H[i]?=some o)(hl:o.live=true)(hO:Uq w I m H.length (m i) o'):WS W0 I0 w I m (H.set i o'):=by
 have z8:∀(k:Nat) (p:AObj),(H.set i o')[k]?=some p->(k=i/\p=o')\/(k≠i/\H[k]?=some p):=λk p hp=>by
  by_cases hk:k=i
  ·subst hk;rw[zJ (zD.1 hi).1]at hp;exact .inl ⟨rfl,(Option.some.inj hp).symm⟩
  rw[zI (by omega)]at hp;exact .inr ⟨hk,hp⟩
 have z1:∀(k:Nat) (p:AObj),(H.set i o')[k]?=some p->p.live=true->∃q,H[k]?=some q/\q.live=true:=λk p hp lp=>by
  rcases z8 k p hp with⟨rfl,rfl⟩|⟨_,h2⟩
  ·exact⟨o,hi,hl⟩
  exact⟨p,h2,lp⟩
 refine⟨h.below,h.i0,h.iw,λk p hp=>?_,λk p c hp lp mc=>?_,λa b oa ob c ha hb la lb ma mb=>?_⟩
 ·rw[List.length_set];rcases z8 k p hp with⟨rfl,rfl⟩|⟨_,h2⟩
  ·exact hO
  exact h.obj k p h2
 ·obtain⟨q,hq,lq⟩:=z1 k p hp lp;exact h.own k q c hq lq mc
 obtain⟨qa,h1,h2⟩:=z1 a oa ha la;obtain⟨qb,h3,h4⟩:=z1 b ob hb lb;exact h.inj a b qa qb c h1 h3 h2 h4 ma mb
variable {Q:Exit->AS->Prop}
def St.swap{C:Cx P}{a:Act}{w:World}{sl:List (Nat×AV)}{H:List AObj}(hs:St C nt k ⟨sl,H⟩ a w){i:Nat}{o o':AObj}(hi:H[i]?=some o)(hl:o.live=true)(hO:∀I m,Uq w I m H.length (m i) o->Uq w I m H.length (m i) o'):
  St C nt k ⟨sl,H.set i o'⟩ a w:=by
 obtain⟨I,m,hw,z1,hk,hf⟩:=hs;refine⟨I,m,hw.swap hi hl (hO I m (hw.obj i o hi)),⟨z1.1,z1.2.1,λt x hx=>?_⟩,by simpa using hk,hf⟩;obtain⟨v,hv,hr⟩:=z1.2.2 t x hx;exact⟨v,hv,by simpa using hr⟩
def Uq.toVa{w:World}{I:Nat->Prop}{m:Nat->Option Nat}{n:Nat}{b? :Option Nat}{e c:Nat}{xs:List AV}(h:Uq w I m n b? (.arr e c xs)):Uq w I m n b? (.va e c xs):=by
 rcases h with h|⟨b,cap,vs,e1,hh,h1,h2,h3,h4,hr⟩
 ·exact .inl h
 exact .inr ⟨b,cap,vs,e1,hh,h1,h2,h3,h4,λi x hx j y hy=>by obtain⟨v,hv,hp⟩:=hr i x hx j y hy;exact⟨v,hv,.pure hp⟩⟩
def Uq.toArr{w:World}{I:Nat->Prop}{m:Nat->Option Nat}{n:Nat}{b? :Option Nat}{e c:Nat}{xs:List AV}(hp:xs.all (λx=>x.cells.all AV.pure)=true)(h:Uq w I m n b? (.va e c xs)):Uq w I m n b? (.arr e c xs):=by
 simp only[zV]at hp;rcases h with h|⟨b,cap,vs,e1,hh,h1,h2,h3,h4,hr⟩
 ·exact .inl h
 exact .inr ⟨b,cap,vs,e1,hh,h1,h2,h3,h4,λi x hx j y hy=>by obtain⟨v,hv,hq⟩:=hr i x hx j y hy;exact⟨v,hv,hq.toPure (hp x (zE hx) y (zE hy))⟩⟩
def Hw{cd:Code}{sl:List (Nat×AV)}{H:List AObj}(i:Nat){e c:Nat}{xs:List AV}(hi:H[i]?=some (.arr e c xs))(h:AWP P nt k cd Q ⟨sl,H.set i (.va e c xs)⟩):AWP P nt k cd Q ⟨sl,H⟩:=
 λC a w hs=>h C a w (hs.swap hi rfl (λ_ _=>Uq.toVa))
def Il{cd:Code}{sl:List (Nat×AV)}{H:List AObj}(i:Nat){e c:Nat}{xs:List AV}(hi:H[i]?=some (.va e c xs))(hp:xs.all (λx=>x.cells.all AV.pure)=true)(h:AWP P nt k cd Q ⟨sl,H.set i (.arr e c xs)⟩):AWP P nt k cd Q ⟨sl,H⟩:=
 λC a w hs=>h C a w (hs.swap hi rfl (λ_ _=>Uq.toArr hp))
def St.freezeO{C:Cx P}{a:Act}{w:World}{sl:List (Nat×AV)}{H:List AObj}(hs:St C nt k ⟨sl,H⟩ a w)(i:Nat){e c:Nat}{xs:List AV}(hi:H[i]?=some (.arr e c xs))(t:Nat){o0:AObj}(ht:H[t]?=some o0)(zc:t≠i)(hlo:o0.live=true):
  St C nt k ⟨sl.map λp=>(p.1,p.2.fz i c xs),(H.set i .dead).set t (o0.fz i c xs)⟩ a w:=by
 obtain⟨I,m,hw,za,hk,hf⟩:=hs;have ze:t<H.length:=(zD.1 ht).1;have zb:Ext w w I (λb=>I b\/m i=some b):=⟨λ_ h=> .inl h,λ_ _=>rfl⟩
 have z8:Fut H.length w I m w (λb=>I b\/m i=some b) m:=⟨zb,λ_ _=>rfl,λ_ _ h=>h⟩
 have hlen:((H.set i .dead).set t (o0.fz i c xs)).length=H.length:=by simp
 have z1:∀(id:Nat) (o:AObj),((H.set i .dead).set t (o0.fz i c xs))[id]?=some o->o.live=true->id≠i/\∃o',H[id]?=some o'/\o'.live=true:=λid o ho hl=>by
  by_cases hid:id=i
  ·subst hid;rw[zI zc,zJ (zD.1 hi).1]at ho;cases ho;simp[AObj.live]at hl
  by_cases hit:id=t
  ·subst hit;exact⟨hid,_,ht,hlo⟩
  rw[zI (by omega),zI (by omega)]at ho;exact⟨hid,_,ho,hl⟩
 refine⟨λb=>I b\/m i=some b,m,⟨hw.below,λb hb=> .inl (hw.i0 b hb),λb hb=>?_,λid o ho=>?_,λid o b ho hl hm=>?_,λa b oa ob d ha hb la lb ma mb=>?_⟩,⟨za.1,za.2.1,λt x hx=>?_⟩,by rw[hlen];exact hk,hf.trans hk z8⟩
 ·rcases hb with hb|hb
  ·exact hw.iw b hb
  have:=hw.own i _ b hi rfl hb;exact⟨this.2.2,.inr this.1⟩
 ·rw[hlen];by_cases hid:id=i
  ·subst hid;rw[zI zc,zJ (zD.1 hi).1]at ho;cases ho;trivial
  by_cases hit:id=t
  ·subst hit;rw[zJ (by simpa using ze)]at ho;cases ho;exact(hw.obj id _ ht).fz hw hi
  rw[zI (by omega),zI (by omega)]at ho;exact Uq.mono (hw.obj id o ho) z8 (zR _) (λ_ _ _=>rfl)
 ·obtain⟨zf,o',zd,hl'⟩:=z1 id o ho hl;have h1:=hw.own id o' b zd hl' hm;refine⟨h1.1,λhc=>?_,h1.2.2⟩;rcases hc with hc|hc
  ·exact h1.2.1 hc
  exact zf (hw.inj id i o' _ b zd hi hl' rfl hm hc)
 ·obtain⟨_,zg,zh,zi⟩:=z1 a oa ha la;obtain⟨_,zj,zk,zl⟩:=z1 b ob hb lb;exact hw.inj a b zg zj d zh zk zi zl ma mb
 rw[hlen];have:=As hx;obtain⟨y,hy,rfl⟩:=this;obtain⟨v,hv,hr⟩:=za.2.2 t y hy;exact⟨v,hv,hr.fz hw hi⟩
def Ov{cd:Code}{sl:List (Nat×AV)}{H:List AObj}(i:Nat){e c:Nat}{xs:List AV}(hi:H[i]?=some (.arr e c xs))(t:Nat){o0:AObj}(ht:H[t]?=some o0)(z1:t≠i)(hlo:o0.live=true)(h:AWP P nt k cd Q ⟨sl.map λp=>(p.1,p.2.fz i c xs),(H.set i .dead).set t (o0.fz i c xs)⟩):AWP P nt k cd Q ⟨sl,H⟩:=
 λC a w hs=>h C a w (hs.freezeO i hi t ht z1 hlo)
end
end
section
open Go.RowKit
def Uq.nrmArr{w:World}{I:Nat->Prop}{m:Nat->Option Nat}{n:Nat}{b? :Option Nat}{e c:Nat}{xs:List AV}(h:Uq w I m n b? (.arr e c xs)):Uq w I m n b? (.arr e c (xs.map AV.nrm)):=by
 rcases h with⟨h,rfl⟩|⟨b,cap,vs,e1,hh,h1,h2,h3,h4,hr⟩
 ·exact .inl ⟨h,rfl⟩
 refine .inr ⟨b,cap,vs,e1,hh,by simpa using h1,h2,h3,λx hx=>?_,λi x hx j y hy=>?_⟩
 ·obtain⟨x',z1,rfl⟩:=xg.1 hx;rw[(Zx x').1];exact h4 x' z1
 rw[zU]at hx;obtain⟨x',z1,rfl⟩:=zM.1 hx;obtain⟨y',k1,k2⟩:=(Zx x').2 j y hy;obtain⟨v,hv,hp⟩:=hr i x' z1 j y' k1;exact⟨v,hv,k2 _ _ _ hp⟩
section
variable {P:Program} [Env P] {T:TT} {nt k:Nat} {S:AS} {ops:Array Oper} {o:Oper} {R:AS->Prop} {Q:Exit->AS->Prop}
def T8{cd:Code}{sl:List (Nat×AV)}{H:List AObj}(i:Nat){e c:Nat}{xs:List AV}(hi:H[i]?=some (.arr e c xs))(h:AWP P nt k cd Q ⟨sl,H.set i (.arr e c (xs.map AV.nrm))⟩):AWP P nt k cd Q ⟨sl,H⟩:=
 λC a w hs=>h C a w (hs.swap hi rfl (λ_ _=>Uq.nrmArr))
end
end
section
section
variable {P:Program} [Env P] {T:TT} {nt k:Nat} {S:AS}
def Q1{cd:Code}{Q:Exit->AS->Prop}{sl:List (Nat×AV)}{H:List AObj}(h:∀Z,Z=H->AWP P nt k cd Q ⟨sl,Z⟩):AWP P nt k cd Q ⟨sl,H⟩:=h H rfl
def Zy{wr:Bool}{ops:Array Oper}{o:Oper}{R:AS->Prop}{sl:List (Nat×AV)}{H:List AObj}(h:∀Z,Z=H->Wu P nt k wr ops o ⟨sl,Z⟩ R):Wu P nt k wr ops o ⟨sl,H⟩ R:=h H rfl
end
end
section
open Go.RowKit
section
variable {P:Program} [Env P] {T:TT} {nt k:Nat} {S:AS} {ops:Array Oper} {o:Oper} {R:AS->Prop}
end
end
section
open Go.Sort
def PVR.of_val{w:World}{I:Nat->Prop}{u:Value}{x:AV}(hx:x.val=some u):PVR w I u x:=by
 cases x<;>simp[AV.val]at hx<;>subst hx
 ·exact .bool _
 ·exact .int _ _
 exact .str _
structure RowOf (k:Nat) (xs:List AV) (F:Array Value):Prop where
 size:F.size=xs.length * k
 width:∀x∈xs,x.cells.length=k
 cell:∀(i:Nat) (x:AV),xs[i]?=some x->∀(j:Nat) (y:AV),x.cells[j]?=some y->y.val=some F[i * k+j]!
section
variable {W0:World} {I0:Nat->Prop} {w:World} {I:Nat->Prop} {m:Nat->Option Nat} {H:List AObj} {p b:Nat} {e:TypeId} {k:Nat} {xs:List AV} {F:Array Value}
def c0j(z8:WS W0 I0 w I m H)(ho:H[p]?=some (.arr e k xs))(hm:m p=some b)(hF:RowOf k xs F):Holds id w b 0 F/\b<w.heap.size:=by
 obtain⟨_,_,hb⟩:=z8.own p _ b ho rfl hm;refine⟨λj hj=>?_,hb⟩;rcases z8.obj p _ ho with⟨e1,_⟩|⟨b',cap,vs,za,hh,q1,q2,q3,q4,hr⟩
 ·rw[hm]at e1;cases e1
 obtain rfl:b=b':=by rw[hm]at za;exact Option.some.inj za
 have hk:0<k:=by
  rcases xz k with h|h
  ·rw[hF.size,h]at hj;simp at hj
  exact h
 have zb:j<xs.length * k:=by rw[<-hF.size];exact hj
 have hi:j / k<xs.length:=Nat.div_lt_of_lt_mul (by rwa [wA]at zb);have hc:=hF.width _ (yB hi);have z1:j % k<(xs[j / k]).cells.length:=by rw[hc];exact uM _ hk
 have zc:j / k * k+j % k=j:=by rw[wA];exact Nat.div_add_mod _ _
 obtain⟨v,hv,hp⟩:=hr (j / k) _ (zG hi) (j % k) _ (zG z1);have:=hp.val (hF.cell _ _ (zG hi) _ _ (zG z1));rw[zc]at hv this;subst this;simp[World.cell?,World.frozen?,hh,hv]
def g09(zb:WS W0 I0 w I m H)(ho:H[p]?=some (.arr e k xs))(hm:m p=some b)(hF:RowOf k xs F){z1:List AV}{F':Array Value}(hl:z1.length=xs.length)(za:RowOf k z1 F')(n:Nat)(os:Array Obj):
  WS W0 I0 (grow (putRow id (Sort.ahead w n) b 0 F') os) I m (H.set p (.arr e k z1))/\Fut H.length w I m (grow (putRow id (Sort.ahead w n) b 0 F') os) I m:=by
 obtain⟨_,_,hb⟩:=zb.own p _ b ho rfl hm;rcases zb.obj p _ ho with⟨e1,_⟩|⟨b',cap,vs,zd,hh,q1,q2,q3,q4,hr⟩
 ·rw[hm]at e1;cases e1
 obtain rfl:b=b':=by rw[hm]at zd;exact Option.some.inj zd
 have z8:∀c,c<w.heap.size->(grow (putRow id (Sort.ahead w n) b 0 F') os).heap[c]? =if b=c then(w.heap[c]?).map (onCells (putCells id 0 F'))else w.heap[c]? :=by intro c hc;simp only[grow,putRow,mapBlock,Sort.ahead];rw[yK (by simpa using hc),Array.getElem?_modify]
 have ze:(grow (putRow id (Sort.ahead w n) b 0 F') os).heap[b]?=some (.cells (putCells id 0 F' vs) e (0,0)):=by rw[z8 b hb,if_pos rfl,hh];rfl
 have hg:w.grownBy (grow (putRow id (Sort.ahead w n) b 0 F') os) (some b):=⟨rfl,rfl,rfl,by simp[grow,putRow,mapBlock,Sort.ahead],λc hc zf=>by
  rw[z8 c hc,if_neg (λh=>zf (by rw[h]))]⟩
 refine zb.set (o':= .arr e k z1) ho rfl hm hg (λs hs=>?_) (λm' hf=> .inr ⟨b,cap,putCells id 0 F' vs,rfl,ze,by omega,q2,by simp[putCells,q3],za.width,λi x hx j y hy=>?_⟩)
 ·simp only[World.shape?,hh]at hs;simp only[World.shape?,ze];simpa[putCells]using hs
 have hi:i<z1.length:=(zD.1 hx).1;have hj:j<k:=by have:=za.width x (zE hx);rw[<-this];exact(zD.1 hy).1
 have zg:i * k+j<z1.length * k:=by have:=zZ k (show i+1<=z1.length from hi);rw[yA,Nat.one_mul]at this;omega
 have zc:i * k+j<vs.size:=by rw[q3];have:=zZ k (show z1.length<=cap by omega);omega
 refine⟨F'[i * k+j]!,?_,PVR.of_val (za.cell i x hx j y hy)⟩;have:=za.size;simp only[putCells,Array.getElem?_mapIdx,Array.getElem?_eq_getElem zc,xU];rw[if_pos (by omega)];rfl
def Bq(v:Value)(us:List Value): #[v]++us.toArray=⟨v::us⟩:=by simp
def y1i {P:Program} [Env P] {f:FuncId} {rest:List AV} (hc:Te P f) {len:Nat} (zd:xs.length=len) (ho:H[p]?=some (.arr e k xs)) (hF:RowOf k xs F)
  (us:List Value) (hu:∀(w:World) (I:Nat->Prop) (m:Nat->Option Nat) (vs:List Value),vs.length=rest.length->(∀(i:Nat) (v:Value) (x:AV),vs[i]?=some v->rest[i]?=some x->VR w I m H.length v x)->vs=us)
  (Rx:List AV->Prop)
  (h:∀(b cap:Nat) (w:World),Holds id w b 0 F->b<w.heap.size->len<=cap->Calls P f (#[.slice (some ⟨b,0,none⟩) len cap]++us.toArray) w λen w'=>en= .returned (.tuple #[])/\∃(z1:List AV) (F':Array Value) (n:Nat) (os:Array Obj),Rx z1/\z1.length=xs.length/\RowOf k z1 F'/\w'=grow (putRow id (Sort.ahead w n) b 0 F') os)
  (h0:xs=[]->Rx []/\∀(w:World),Calls P f (#[.slice none 0 0]++us.toArray) w λen w'=>en= .returned (.tuple #[])/\w'=w):
  FC P f (.sl p k 0 len::rest) H (λr H'=>r= .tup []/\∃z1,Rx z1/\H'=H.set p (.arr e k z1)):=by
 refine⟨hc,λW0 I0 w I m vals hE z8 zb hv=>?_⟩;rcases vals with⟨vals⟩
 cases vals with
 |nil=>simp at zb
 |cons v vs=>
  have ze:vs=us:=hu w I m vs (by simpa using zb) λi v x a b=>hv (i+1) v x (by simpa using a) (by simpa using b);subst ze;have zf:=hv 0 v _ rfl rfl;have tupR:∀(w:World) (I:Nat->Prop) (m:Nat->Option Nat) (n:Nat),VR w I m n (.tuple #[]) (.tup []):=λw I m n=> .tup _ _ rfl (λi v x a=>by simp at a);rcases zf.sl_inv with⟨b,cap,t,hb,hn,zi,hle,hmax,za⟩|⟨hb,hn,_,zg,za⟩|⟨_,_,hlo,_,_⟩
  ·subst za;obtain⟨g1,g2⟩:=c0j z8 ho hb hF;have:=h b cap w g1 g2 hle;simp only[vx];refine Calls.mono (by rw[Bq]at this;exact this) ?_;rintro en w' ⟨rfl,z1,F',n,os,hx,hl,zh,rfl⟩;obtain⟨k1,k2⟩:=g09 z8 ho hb hF hl zh n os;exact⟨_,_,_,I,m,⟨rfl,z1,hx,rfl⟩,rfl,k1,by simp,k2,tupR _ _ _ _⟩
  ·subst za;have zc:xs=[]:=by cases xs with|nil=>rfl|cons=>simp at zd;omega
   obtain⟨r0,r1⟩:=h0 zc;subst zg;refine Calls.mono (by have:=r1 w;rw[Bq]at this;exact this) ?_;rintro en w' ⟨rfl,rfl⟩;refine⟨_,_,H,I,m,⟨rfl,[],r0,?_⟩,rfl,z8,zR _,.refl _ _ _ _,tupR _ _ _ _⟩;rw[<-zc];exact(xk λi=>by
    by_cases hi:i=p
    ·subst hi;rw[ho,zJ (zD.1 ho).1]
    rw[zI (λh=>hi h.symm)])
  omega
end
end
section
open Go.Sort
section
variable {W0:World} {I0:Nat->Prop} {w:World} {I:Nat->Prop} {m:Nat->Option Nat} {H:List AObj} {p b:Nat} {e:TypeId} {k:Nat} {xs:List AV} {F:Array Value}
def k1n(zs:List Int):RowOf 1 (zs.map (AV.int .i64)) (zs.map (Value.int .i64)).toArray where
 size:=by simp
 width x hx:=by obtain⟨y,_,rfl⟩:=xg.1 hx;rfl
 cell i x hx j y hy:=by
  rw[zU]at hx;obtain⟨z,hz,rfl⟩:=zM.1 hx;obtain⟨hi,rfl⟩:=zD.1 hz;have hj:j=0:=by have:=(zD.1 hy).1;simp[AV.cells]at this;exact this
  subst hj;simp[AV.cells]at hy;subst hy;rw[Nat.mul_one,Nat.add_zero,getElem!_pos _ i (by simpa using hi)];simp[AV.val]
def w09{w:World}{b:Nat}{zs:List Int}(h:Holds id w b 0 (zs.map (Value.int .i64)).toArray):Holds (Value.int .i64) w b 0 zs.toArray:=λj hj=>by
 have z1:j<zs.length:=by simpa using hj
 have:=h j (by simpa using z1);rw[getElem!_pos _ j (by simpa using z1)]at this;rw[getElem!_pos _ j (by simpa using z1)];simpa using this
def Ni(w:World)(b:Nat)(zs:List Int):putRow (Value.int .i64) w b 0 zs.toArray=putRow id w b 0 (zs.map (Value.int .i64)).toArray:=by
 unfold putRow;refine mapBlock_congr _ _ _ _ λc e fr _=>?_;unfold putCells;refine Array.ext (by simp) λi h1 h2=>?_;simp only[Array.getElem_mapIdx,yG,xp,id];split
 ·rename_i hh;have hi:i - 0<zs.length:=by omega
  rw[getElem!_pos _ (i - 0) (by simpa using hi),getElem!_pos _ (i - 0) (by simpa using hi)];simp
 rfl
end
end
section
open Go.Proofs
abbrev D2_:TI:={ desc:= .int .i64,zero:=(.int .i64 0),size:=1,bytes:=8 }
abbrev D3_:TI:={ desc:= .int .i64,zero:=(.int .i64 0),size:=1,bytes:=8 }
abbrev D4_:TI:={ desc:= .bool,zero:=(.bool false),size:=1,bytes:=1 }
abbrev D5_:TI:={ desc:= .int .u8,zero:=(.int .u8 0),size:=1,bytes:=1 }
abbrev D9_:TI:={ desc:= .string,zero:=(.string ⟨#[]⟩),size:=1,bytes:=16 }
abbrev x1a:TI:={ desc:= .slice 5,zero:=(.slice none 0 0),size:=1,bytes:=24 }
abbrev x1r:TI:={ desc:= .slice 3,zero:=(.slice none 0 0),size:=1,bytes:=24 }
abbrev x1l:TI:={ desc:= .pointer 41,zero:=(.pointer none),size:=1,bytes:=8 }
abbrev x1g:TI:={ desc:= .slice 93,zero:=(.slice none 0 0),size:=1,bytes:=24 }
abbrev y13:TI:={ desc:= .struct #[{ name:= "Next",type:=3,offset:=0,embedded:=false,tag:= "",pkgPath:= "",byteOffset:=0 },{ name:= "Attempts",type:=30,offset:=1,embedded:=false,tag:= "",pkgPath:= "",byteOffset:=8 },{ name:= "Durable",type:=3,offset:=2,embedded:=false,tag:= "",pkgPath:= "",byteOffset:=32 }],zero:=(.agg #[(.int .i64 0),(.slice none 0 0),(.int .i64 0)]),size:=3,bytes:=40 }
abbrev x1w:TI:={ desc:= .slice 78,zero:=(.slice none 0 0),size:=1,bytes:=24 }
abbrev x1c:TI:={ desc:= .slice 134,zero:=(.slice none 0 0),size:=1,bytes:=24 }
abbrev x1s:TI:={ desc:= .struct #[{ name:= "Epoch",type:=3,offset:=0,embedded:=false,tag:= "",pkgPath:= "",byteOffset:=0 },{ name:= "Committed",type:=33,offset:=1,embedded:=false,tag:= "",pkgPath:= "",byteOffset:=8 },{ name:= "Pending",type:=34,offset:=2,embedded:=false,tag:= "",pkgPath:= "",byteOffset:=32 }],zero:=(.agg #[(.int .i64 0),(.slice none 0 0),(.slice none 0 0)]),size:=3,bytes:=56 }
abbrev y10:TI:={ desc:= .slice 155,zero:=(.slice none 0 0),size:=1,bytes:=24 }
abbrev x1i:TI:={ desc:= .struct #[{ name:= "Files",type:=37,offset:=0,embedded:=false,tag:= "",pkgPath:= "",byteOffset:=0 },{ name:= "Space",type:=3,offset:=1,embedded:=false,tag:= "",pkgPath:= "",byteOffset:=24 }],zero:=(.agg #[(.slice none 0 0),(.int .i64 0)]),size:=2,bytes:=32 }
abbrev x1m:TI:={ desc:= .struct #[{ name:= "next",type:=3,offset:=0,embedded:=false,tag:= "",pkgPath:= "tidegate/tidegatetop",byteOffset:=0 },{ name:= "coordinator",type:=32,offset:=1,embedded:=false,tag:= "",pkgPath:= "tidegate/tidegatetop",byteOffset:=8 },{ name:= "sink",type:=36,offset:=4,embedded:=false,tag:= "",pkgPath:= "tidegate/tidegatetop",byteOffset:=48 },{ name:= "disk",type:=39,offset:=7,embedded:=false,tag:= "",pkgPath:= "tidegate/tidegatetop",byteOffset:=104 },{ name:= "epoch",type:=3,offset:=9,embedded:=false,tag:= "",pkgPath:= "tidegate/tidegatetop",byteOffset:=136 },{ name:= "lost",type:=4,offset:=10,embedded:=false,tag:= "",pkgPath:= "tidegate/tidegatetop",byteOffset:=144 }],zero:=(.agg #[(.int .i64 0),(.int .i64 0),(.slice none 0 0),(.int .i64 0),(.int .i64 0),(.slice none 0 0),(.slice none 0 0),(.slice none 0 0),(.int .i64 0),(.int .i64 0),(.bool false)]),size:=11,bytes:=152 }
abbrev x1d:TI:={ desc:= .int .i64,zero:=(.int .i64 0),size:=1,bytes:=8 }
abbrev x1q:TI:={ desc:= .slice 258,zero:=(.slice none 0 0),size:=1,bytes:=24 }
abbrev y11:TI:={ desc:= .struct #[{ name:= "Next",type:=3,offset:=0,embedded:=false,tag:= "",pkgPath:= "",byteOffset:=0 },{ name:= "Beyond",type:=23,offset:=1,embedded:=false,tag:= "",pkgPath:= "",byteOffset:=8 },{ name:= "Points",type:=48,offset:=2,embedded:=false,tag:= "",pkgPath:= "",byteOffset:=32 },{ name:= "Mark",type:=3,offset:=3,embedded:=false,tag:= "",pkgPath:= "",byteOffset:=56 }],zero:=(.agg #[(.int .i64 0),(.slice none 0 0),(.slice none 0 0),(.int .i64 0)]),size:=4,bytes:=64 }
abbrev y16:TI:={ desc:= .struct #[{ name:= "Source",type:=3,offset:=0,embedded:=false,tag:= "",pkgPath:= "",byteOffset:=0 },{ name:= "Offset",type:=3,offset:=1,embedded:=false,tag:= "",pkgPath:= "",byteOffset:=8 },{ name:= "Tracker",type:=50,offset:=2,embedded:=false,tag:= "",pkgPath:= "",byteOffset:=16 }],zero:=(.agg #[(.int .i64 0),(.int .i64 0),(.int .i64 0),(.slice none 0 0),(.slice none 0 0),(.int .i64 0)]),size:=6,bytes:=80 }
abbrev x1v:TI:={ desc:= .slice 52,zero:=(.slice none 0 0),size:=1,bytes:=24 }
abbrev x1e:TI:={ desc:= .slice 106,zero:=(.slice none 0 0),size:=1,bytes:=24 }
abbrev x1n:TI:={ desc:= .struct #[{ name:= "Marks",type:=23,offset:=0,embedded:=false,tag:= "",pkgPath:= "",byteOffset:=0 },{ name:= "Engines",type:=56,offset:=1,embedded:=false,tag:= "",pkgPath:= "",byteOffset:=24 }],zero:=(.agg #[(.slice none 0 0),(.slice none 0 0)]),size:=2,bytes:=48 }
abbrev y19:TI:={ desc:= .slice 58,zero:=(.slice none 0 0),size:=1,bytes:=24 }
abbrev y14:TI:={ desc:= .struct #[{ name:= "Number",type:=3,offset:=0,embedded:=false,tag:= "",pkgPath:= "",byteOffset:=0 },{ name:= "Readers",type:=53,offset:=1,embedded:=false,tag:= "",pkgPath:= "",byteOffset:=8 },{ name:= "Operators",type:=59,offset:=2,embedded:=false,tag:= "",pkgPath:= "",byteOffset:=32 }],zero:=(.agg #[(.int .i64 0),(.slice none 0 0),(.slice none 0 0)]),size:=3,bytes:=56 }
abbrev x1p:TI:={ desc:= .slice 126,zero:=(.slice none 0 0),size:=1,bytes:=24 }
abbrev x1t:TI:={ desc:= .struct #[{ name:= "Bindings",type:=74,offset:=0,embedded:=false,tag:= "",pkgPath:= "",byteOffset:=0 }],zero:=(.agg #[(.slice none 0 0)]),size:=1,bytes:=24 }
abbrev x1b:TI:={ desc:= .struct #[{ name:= "Sign",type:=3,offset:=0,embedded:=false,tag:= "",pkgPath:= "",byteOffset:=0 },{ name:= "Query",type:=3,offset:=1,embedded:=false,tag:= "",pkgPath:= "",byteOffset:=8 },{ name:= "Match",type:=76,offset:=2,embedded:=false,tag:= "",pkgPath:= "",byteOffset:=16 }],zero:=(.agg #[(.int .i64 0),(.int .i64 0),(.slice none 0 0)]),size:=3,bytes:=40 }
abbrev v1n:TI:={ desc:= .func #[132] #[] false,zero:= .nilFunc,size:=1,bytes:=8 }
abbrev x1o:TI:={ desc:= .slice 4,zero:=(.slice none 0 0),size:=1,bytes:=24 }
abbrev y12:TI:={ desc:= .struct #[{ name:= "Number",type:=3,offset:=0,embedded:=false,tag:= "",pkgPath:= "",byteOffset:=0 },{ name:= "Readers",type:=53,offset:=1,embedded:=false,tag:= "",pkgPath:= "",byteOffset:=8 },{ name:= "Operators",type:=59,offset:=2,embedded:=false,tag:= "",pkgPath:= "",byteOffset:=32 },{ name:= "Have",type:=91,offset:=3,embedded:=false,tag:= "",pkgPath:= "",byteOffset:=56 }],zero:=(.agg #[(.int .i64 0),(.slice none 0 0),(.slice none 0 0),(.slice none 0 0)]),size:=4,bytes:=80 }
abbrev x1u:TI:={ desc:= .pointer 93,zero:=(.pointer none),size:=1,bytes:=8 }
abbrev j0n:TI:={ desc:= .struct #[{ name:= "Kind",type:=3,offset:=0,embedded:=false,tag:= "",pkgPath:= "",byteOffset:=0 },{ name:= "Num",type:=3,offset:=1,embedded:=false,tag:= "",pkgPath:= "",byteOffset:=8 },{ name:= "Text",type:=9,offset:=2,embedded:=false,tag:= "",pkgPath:= "",byteOffset:=16 }],zero:=(.agg #[(.int .i64 0),(.int .i64 0),(.string ⟨#[]⟩)]),size:=3,bytes:=32,eqv:=true }
abbrev k03:TI:={ desc:= .slice 289,zero:=(.slice none 0 0),size:=1,bytes:=24 }
abbrev u0w:TI:={ desc:= .slice 294,zero:=(.slice none 0 0),size:=1,bytes:=24 }
abbrev j0o:TI:={ desc:= .struct #[{ name:= "Mark",type:=3,offset:=0,embedded:=false,tag:= "",pkgPath:= "",byteOffset:=0 },{ name:= "Waiting",type:=101,offset:=1,embedded:=false,tag:= "",pkgPath:= "",byteOffset:=8 },{ name:= "Runs",type:=102,offset:=2,embedded:=false,tag:= "",pkgPath:= "",byteOffset:=32 },{ name:= "Held",type:=101,offset:=3,embedded:=false,tag:= "",pkgPath:= "",byteOffset:=56 }],zero:=(.agg #[(.int .i64 0),(.slice none 0 0),(.slice none 0 0),(.slice none 0 0)]),size:=4,bytes:=80 }
abbrev k02:TI:={ desc:= .struct #[{ name:= "Query",type:=3,offset:=0,embedded:=false,tag:= "",pkgPath:= "",byteOffset:=0 },{ name:= "Key",type:=100,offset:=1,embedded:=false,tag:= "",pkgPath:= "",byteOffset:=8 },{ name:= "Engine",type:=104,offset:=4,embedded:=false,tag:= "",pkgPath:= "",byteOffset:=40 }],zero:=(.agg #[(.int .i64 0),(.int .i64 0),(.int .i64 0),(.string ⟨#[]⟩),(.int .i64 0),(.slice none 0 0),(.slice none 0 0),(.slice none 0 0)]),size:=8,bytes:=120 }
abbrev u02:TI:={ desc:= .slice 112,zero:=(.slice none 0 0),size:=1,bytes:=24 }
abbrev u0k:TI:={ desc:= .func #[39] #[39,45] false,zero:= .nilFunc,size:=1,bytes:=8 }
abbrev v07:TI:={ desc:= .struct #[{ name:= "Time",type:=3,offset:=0,embedded:=false,tag:= "",pkgPath:= "",byteOffset:=0 },{ name:= "Source",type:=3,offset:=1,embedded:=false,tag:= "",pkgPath:= "",byteOffset:=8 },{ name:= "Seq",type:=3,offset:=2,embedded:=false,tag:= "",pkgPath:= "",byteOffset:=16 }],zero:=(.agg #[(.int .i64 0),(.int .i64 0),(.int .i64 0)]),size:=3,bytes:=24,eqv:=true }
abbrev k0p:TI:={ desc:= .struct #[{ name:= "Var",type:=3,offset:=0,embedded:=false,tag:= "",pkgPath:= "",byteOffset:=0 },{ name:= "Ref",type:=124,offset:=1,embedded:=false,tag:= "",pkgPath:= "",byteOffset:=8 }],zero:=(.agg #[(.int .i64 0),(.int .i64 0),(.int .i64 0),(.int .i64 0)]),size:=4,bytes:=32,eqv:=true }
abbrev k0x:TI:={ desc:= .struct #[{ name:= "Epoch",type:=3,offset:=0,embedded:=false,tag:= "",pkgPath:= "",byteOffset:=0 },{ name:= "Changes",type:=33,offset:=1,embedded:=false,tag:= "",pkgPath:= "",byteOffset:=8 }],zero:=(.agg #[(.int .i64 0),(.slice none 0 0)]),size:=2,bytes:=32 }
abbrev u00:TI:={ desc:= .slice 143,zero:=(.slice none 0 0),size:=1,bytes:=24 }
abbrev d0z:TI:={ desc:= .func #[141] #[] false,zero:= .nilFunc,size:=1,bytes:=8 }
abbrev u0c:TI:={ desc:= .func #[94,94] #[4] false,zero:= .nilFunc,size:=1,bytes:=8 }
abbrev j0c:TI:={ desc:= .struct #[{ name:= "holds",type:=141,offset:=0,embedded:=false,tag:= "",pkgPath:= "tidegate/coordinator",byteOffset:=0 },{ name:= "e",type:=45,offset:=1,embedded:=false,tag:= "",pkgPath:= "tidegate/coordinator",byteOffset:=8 }],zero:=(.agg #[.nilFunc,(.int .i64 0)]),size:=2,bytes:=16 }
abbrev j06:TI:={ desc:= .struct #[{ name:= "Name",type:=9,offset:=0,embedded:=false,tag:= "",pkgPath:= "",byteOffset:=0 },{ name:= "Durable",type:=9,offset:=1,embedded:=false,tag:= "",pkgPath:= "",byteOffset:=16 },{ name:= "Volatile",type:=9,offset:=2,embedded:=false,tag:= "",pkgPath:= "",byteOffset:=32 }],zero:=(.agg #[(.string ⟨#[]⟩),(.string ⟨#[]⟩),(.string ⟨#[]⟩)]),size:=3,bytes:=48,eqv:=true }
abbrev u01:TI:={ desc:= .struct #[{ name:= "left",type:=23,offset:=0,embedded:=false,tag:= "",pkgPath:= "tidegate/disk",byteOffset:=0 }],zero:=(.agg #[(.slice none 0 0)]),size:=1,bytes:=24 }
abbrev d0d:TI:={ desc:= .func #[3] #[3] false,zero:= .nilFunc,size:=1,bytes:=8 }
abbrev g06:TI:={ desc:= .func #[196] #[] false,zero:= .nilFunc,size:=1,bytes:=8 }
abbrev f0h:TI:={ desc:= .func #[134,3] #[3] false,zero:= .nilFunc,size:=1,bytes:=8 }
abbrev k0o:TI:={ desc:= .func #[] #[93] false,zero:= .nilFunc,size:=1,bytes:=8 }
abbrev v01:TI:={ desc:= .pointer 205,zero:=(.pointer none),size:=1,bytes:=8 }
abbrev d00:TI:={ desc:= .func #[180] #[] false,zero:= .nilFunc,size:=1,bytes:=8 }
abbrev d0b:TI:={ desc:= .func #[9] #[9] false,zero:= .nilFunc,size:=1,bytes:=8 }
abbrev d0o:TI:={ desc:= .int .u64,zero:=(.int .u64 0),size:=1,bytes:=8 }
abbrev k0n:TI:={ desc:= .func #[3,9] #[4] false,zero:= .nilFunc,size:=1,bytes:=8 }
abbrev g00:TI:={ desc:= .func #[238] #[] false,zero:= .nilFunc,size:=1,bytes:=8 }
abbrev g07:TI:={ desc:= .func #[203] #[61] false,zero:= .nilFunc,size:=1,bytes:=8 }
abbrev k0v:TI:={ desc:= .pointer 248,zero:=(.pointer none),size:=1,bytes:=8 }
abbrev u0d:TI:={ desc:= .struct #[{ name:= "out",type:=22,offset:=0,embedded:=false,tag:= "",pkgPath:= "tidegate/codec",byteOffset:=0 },{ name:= "e",type:=45,offset:=1,embedded:=false,tag:= "",pkgPath:= "tidegate/codec",byteOffset:=24 }],zero:=(.agg #[(.slice none 0 0),(.int .i64 0)]),size:=2,bytes:=32 }
abbrev c0y:TI:={ desc:= .func #[3] #[] false,zero:= .nilFunc,size:=1,bytes:=8 }
abbrev d0k:TI:={ desc:= .func #[52] #[] false,zero:= .nilFunc,size:=1,bytes:=8 }
abbrev f01:TI:={ desc:= .func #[58] #[] false,zero:= .nilFunc,size:=1,bytes:=8 }
abbrev f0v:TI:={ desc:= .slice 9,zero:=(.slice none 0 0),size:=1,bytes:=24 }
abbrev c0d:TI:={ desc:= .func #[155,9] #[3] false,zero:= .nilFunc,size:=1,bytes:=8 }
abbrev c07:TI:={ desc:= .array 256 4,zero:=(.agg #[(.bool false),(.bool false),(.bool false),(.bool false),(.bool false),(.bool false),(.bool false),(.bool false),(.bool false),(.bool false),(.bool false),(.bool false),(.bool false),(.bool false),(.bool false),(.bool false),(.bool false),(.bool false),(.bool false),(.bool false),(.bool false),(.bool false),(.bool false),(.bool false),(.bool false),(.bool false),(.bool false),(.bool false),(.bool false),(.bool false),(.bool false),(.bool false),(.bool false),(.bool false),(.bool false),(.bool false),(.bool false),(.bool false),(.bool false),(.bool false),(.bool false),(.bool false),(.bool false),(.bool false),(.bool false),(.bool false),(.bool false),(.bool false),(.bool false),(.bool false),(.bool false),(.bool false),(.bool false),(.bool false),(.bool false),(.bool false),(.bool false),(.bool false),(.bool false),(.bool false),(.bool false),(.bool false),(.bool false),(.bool false),(.bool false),(.bool false),(.bool false),(.bool false),(.bool false),(.bool false),(.bool false),(.bool false),(.bool false),(.bool false),(.bool false),(.bool false),(.bool false),(.bool false),(.bool false),(.bool false),(.bool false),(.bool false),(.bool false),(.bool false),(.bool false),(.bool false),(.bool false),(.bool false),(.bool false),(.bool false),(.bool false),(.bool false),(.bool false),(.bool false),(.bool false),(.bool false),(.bool false),(.bool false),(.bool false),(.bool false),(.bool false),(.bool false),(.bool false),(.bool false),(.bool false),(.bool false),(.bool false),(.bool false),(.bool false),(.bool false),(.bool false),(.bool false),(.bool false),(.bool false),(.bool false),(.bool false),(.bool false),(.bool false),(.bool false),(.bool false),(.bool false),(.bool false),(.bool false),(.bool false),(.bool false),(.bool false),(.bool false),(.bool false),(.bool false),(.bool false),(.bool false),(.bool false),(.bool false),(.bool false),(.bool false),(.bool false),(.bool false),(.bool false),(.bool false),(.bool false),(.bool false),(.bool false),(.bool false),(.bool false),(.bool false),(.bool false),(.bool false),(.bool false),(.bool false),(.bool false),(.bool false),(.bool false),(.bool false),(.bool false),(.bool false),(.bool false),(.bool false),(.bool false),(.bool false),(.bool false),(.bool false),(.bool false),(.bool false),(.bool false),(.bool false),(.bool false),(.bool false),(.bool false),(.bool false),(.bool false),(.bool false),(.bool false),(.bool false),(.bool false),(.bool false),(.bool false),(.bool false),(.bool false),(.bool false),(.bool false),(.bool false),(.bool false),(.bool false),(.bool false),(.bool false),(.bool false),(.bool false),(.bool false),(.bool false),(.bool false),(.bool false),(.bool false),(.bool false),(.bool false),(.bool false),(.bool false),(.bool false),(.bool false),(.bool false),(.bool false),(.bool false),(.bool false),(.bool false),(.bool false),(.bool false),(.bool false),(.bool false),(.bool false),(.bool false),(.bool false),(.bool false),(.bool false),(.bool false),(.bool false),(.bool false),(.bool false),(.bool false),(.bool false),(.bool false),(.bool false),(.bool false),(.bool false),(.bool false),(.bool false),(.bool false),(.bool false),(.bool false),(.bool false),(.bool false),(.bool false),(.bool false),(.bool false),(.bool false),(.bool false),(.bool false),(.bool false),(.bool false),(.bool false),(.bool false),(.bool false),(.bool false),(.bool false),(.bool false),(.bool false),(.bool false),(.bool false),(.bool false),(.bool false),(.bool false),(.bool false),(.bool false),(.bool false),(.bool false),(.bool false),(.bool false),(.bool false)]),size:=256,bytes:=256,eqv:=true }
abbrev c0i:TI:={ desc:= .pointer 222,zero:=(.pointer none),size:=1,bytes:=8 }
abbrev k0k:TI:={ desc:= .interface #[("Error",330)],zero:= .nilIface,size:=1,bytes:=16 }
abbrev u0a:TI:={ desc:= .int .u32,zero:=(.int .u32 0),size:=1,bytes:=4 }
abbrev k0d:TI:={ desc:= .int .u64,zero:=(.int .u64 0),size:=1,bytes:=8 }
abbrev g01:TI:={ desc:= .func #[155] #[4] false,zero:= .nilFunc,size:=1,bytes:=8 }
abbrev j00:TI:={ desc:= .struct #[{ name:= "s",type:=9,offset:=0,embedded:=false,tag:= "",pkgPath:= "tidegate/codec",byteOffset:=0 },{ name:= "e",type:=45,offset:=1,embedded:=false,tag:= "",pkgPath:= "tidegate/codec",byteOffset:=16 }],zero:=(.agg #[(.string ⟨#[]⟩),(.int .i64 0)]),size:=2,bytes:=24,eqv:=true }
abbrev d0e:TI:={ desc:= .func #[] #[3] false,zero:= .nilFunc,size:=1,bytes:=8 }
abbrev f0g:TI:={ desc:= .func #[] #[52] false,zero:= .nilFunc,size:=1,bytes:=8 }
abbrev d08:TI:={ desc:= .func #[] #[58] false,zero:= .nilFunc,size:=1,bytes:=8 }
abbrev k0a:TI:={ desc:= .struct #[{ name:= "Seq",type:=3,offset:=0,embedded:=false,tag:= "",pkgPath:= "",byteOffset:=0 },{ name:= "Time",type:=3,offset:=1,embedded:=false,tag:= "",pkgPath:= "",byteOffset:=8 }],zero:=(.agg #[(.int .i64 0),(.int .i64 0)]),size:=2,bytes:=16,eqv:=true }
abbrev c0q:TI:={ desc:= .func #[258] #[] false,zero:= .nilFunc,size:=1,bytes:=8 }
abbrev g05:TI:={ desc:= .func #[100] #[] false,zero:= .nilFunc,size:=1,bytes:=8 }
abbrev d05:TI:={ desc:= .func #[106] #[] false,zero:= .nilFunc,size:=1,bytes:=8 }
abbrev g02:TI:={ desc:= .func #[] #[258] false,zero:= .nilFunc,size:=1,bytes:=8 }
abbrev f0p:TI:={ desc:= .func #[] #[106] false,zero:= .nilFunc,size:=1,bytes:=8 }
abbrev v0r:TI:={ desc:= .slice 100,zero:=(.slice none 0 0),size:=1,bytes:=24 }
abbrev k0g:TI:={ desc:= .struct #[{ name:= "Source",type:=3,offset:=0,embedded:=false,tag:= "",pkgPath:= "",byteOffset:=0 },{ name:= "Seq",type:=3,offset:=1,embedded:=false,tag:= "",pkgPath:= "",byteOffset:=8 },{ name:= "Type",type:=3,offset:=2,embedded:=false,tag:= "",pkgPath:= "",byteOffset:=16 },{ name:= "Time",type:=3,offset:=3,embedded:=false,tag:= "",pkgPath:= "",byteOffset:=24 },{ name:= "Values",type:=287,offset:=4,embedded:=false,tag:= "",pkgPath:= "",byteOffset:=32 }],zero:=(.agg #[(.int .i64 0),(.int .i64 0),(.int .i64 0),(.int .i64 0),(.slice none 0 0)]),size:=5,bytes:=56 }
abbrev c0u:TI:={ desc:= .func #[289] #[] false,zero:= .nilFunc,size:=1,bytes:=8 }
abbrev u0h:TI:={ desc:= .slice 317,zero:=(.slice none 0 0),size:=1,bytes:=24 }
abbrev j07:TI:={ desc:= .struct #[{ name:= "State",type:=3,offset:=0,embedded:=false,tag:= "",pkgPath:= "",byteOffset:=0 },{ name:= "Bindings",type:=74,offset:=1,embedded:=false,tag:= "",pkgPath:= "",byteOffset:=8 },{ name:= "Starts",type:=292,offset:=2,embedded:=false,tag:= "",pkgPath:= "",byteOffset:=32 }],zero:=(.agg #[(.int .i64 0),(.slice none 0 0),(.slice none 0 0)]),size:=3,bytes:=56 }
abbrev f0b:TI:={ desc:= .func #[294] #[] false,zero:= .nilFunc,size:=1,bytes:=8 }
abbrev c0w:TI:={ desc:= .func #[] #[100] false,zero:= .nilFunc,size:=1,bytes:=8 }
abbrev f0t:TI:={ desc:= .func #[126] #[] false,zero:= .nilFunc,size:=1,bytes:=8 }
abbrev j0u:TI:={ desc:= .struct #[{ name:= "Scope",type:=3,offset:=0,embedded:=false,tag:= "",pkgPath:= "",byteOffset:=0 },{ name:= "Time",type:=3,offset:=1,embedded:=false,tag:= "",pkgPath:= "",byteOffset:=8 }],zero:=(.agg #[(.int .i64 0),(.int .i64 0)]),size:=2,bytes:=16,eqv:=true }
abbrev f0z:TI:={ desc:= .func #[317] #[] false,zero:= .nilFunc,size:=1,bytes:=8 }
abbrev c0t:TI:={ desc:= .func #[] #[289] false,zero:= .nilFunc,size:=1,bytes:=8 }
abbrev c0m:TI:={ desc:= .func #[] #[294] false,zero:= .nilFunc,size:=1,bytes:=8 }
abbrev d0n:TI:={ desc:= .func #[] #[126] false,zero:= .nilFunc,size:=1,bytes:=8 }
abbrev d06:TI:={ desc:= .func #[] #[317] false,zero:= .nilFunc,size:=1,bytes:=8 }
attribute [simp] D2_ D3_ D4_ D5_ D9_ x1a x1r x1l x1g y13 x1w x1c x1s y10 x1i x1m x1d x1q y11 y16 x1v x1e x1n y19 y14 x1p x1t x1b v1n x1o y12 x1u j0n k03 u0w j0o k02 u02 u0k v07 k0p k0x u00 d0z u0c j0c j06 u01 d0d g06 f0h k0o v01 d00 d0b d0o k0n g00 g07 k0v u0d c0y d0k f01 f0v c0d c07 c0i k0k u0a k0d g01 j00 d0e f0g d08 k0a c0q g05 d05 g02 f0p v0r k0g c0u u0h j07 f0b c0w f0t j0u f0z c0t c0m d0n d06
def T:TT:=[(2,D2_),(3,D3_),(4,D4_),(5,D5_),(9,D9_),(22,x1a),(23,x1r),(25,x1l),(30,x1g),(32,y13),(33,x1w),(34,x1c),(36,x1s),(37,y10),(39,x1i),(41,x1m),(45,x1d),(48,x1q),(50,y11),(52,y16),(53,x1v),(56,x1e),(58,x1n),(59,y19),(61,y14),(74,x1p),(76,x1t),(78,x1b),(85,v1n),(91,x1o),(93,y12),(94,x1u),(100,j0n),(101,k03),(102,u0w),(104,j0o),(106,k02),(110,u02),(112,u0k),(124,v07),(126,k0p),(134,k0x),(136,u00),(139,d0z),(141,u0c),(143,j0c),(155,j06),(165,u01),(167,d0d),(169,g06),(176,f0h),(177,k0o),(180,v01),(182,d00),(184,d0b),(193,d0o),(196,k0n),(198,g00),(201,g07),(203,k0v),(205,u0d),(208,c0y),(210,d0k),(212,f01),(214,f0v),(217,c0d),(222,c07),(226,c0i),(230,k0k),(242,u0a),(244,k0d),(246,g01),(248,j00),(249,d0e),(251,f0g),(253,d08),(258,k0a),(259,c0q),(261,g05),(263,d05),(282,g02),(284,f0p),(287,v0r),(289,k0g),(290,c0u),(292,u0h),(294,j07),(295,f0b),(310,c0w),(314,f0t),(317,j0u),(318,f0z),(332,c0t),(334,c0m),(344,d0n),(346,d06)]
def Qx(P:Program)(T:TT)(t:Nat)(i:TI):Prop:=P.underlying t=some i.desc/\(P.info? t).map (λj=>(j.zero,j.size,j.bytes))=some (some i.zero,i.size,i.bytes)/\
 (i.eqv=true->P.stoodInHeld t=false/\P.eqGuardType P.depth t=false)/\(∀fs,i.desc= .struct fs->Um T fs=true)
def k1q:Qx prog T 2 D2_:=
 ⟨by kernel_rfl,by kernel_rfl,λh=>(by simp at h),λfs h=>(by simp at h)⟩
def k1p:Qx prog T 3 D3_:=
 ⟨by kernel_rfl,by kernel_rfl,λh=>(by simp at h),λfs h=>(by simp at h)⟩
def k11:Qx prog T 4 D4_:=
 ⟨by kernel_rfl,by kernel_rfl,λh=>(by simp at h),λfs h=>(by simp at h)⟩
def k19:Qx prog T 5 D5_:=
 ⟨by kernel_rfl,by kernel_rfl,λh=>(by simp at h),λfs h=>(by simp at h)⟩
def k10:Qx prog T 9 D9_:=
 ⟨by kernel_rfl,by kernel_rfl,λh=>(by simp at h),λfs h=>(by simp at h)⟩
def u1y:Qx prog T 22 x1a:=
 ⟨by kernel_rfl,by kernel_rfl,λh=>(by simp at h),λfs h=>(by simp at h)⟩
def u1s:Qx prog T 23 x1r:=
 ⟨by kernel_rfl,by kernel_rfl,λh=>(by simp at h),λfs h=>(by simp at h)⟩
def v1g:Qx prog T 25 x1l:=
 ⟨by kernel_rfl,by kernel_rfl,λh=>(by simp at h),λfs h=>(by simp at h)⟩
def u1b:Qx prog T 30 x1g:=
 ⟨by kernel_rfl,by kernel_rfl,λh=>(by simp at h),λfs h=>(by simp at h)⟩
def v18:Qx prog T 32 y13:=
 ⟨by kernel_rfl,by kernel_rfl,λh=>(by simp at h),λfs h=>(by cases h;kernel_rfl)⟩
def v1v:Qx prog T 33 x1w:=
 ⟨by kernel_rfl,by kernel_rfl,λh=>(by simp at h),λfs h=>(by simp at h)⟩
def x16:Qx prog T 34 x1c:=
 ⟨by kernel_rfl,by kernel_rfl,λh=>(by simp at h),λfs h=>(by simp at h)⟩
def v1q:Qx prog T 36 x1s:=
 ⟨by kernel_rfl,by kernel_rfl,λh=>(by simp at h),λfs h=>(by cases h;kernel_rfl)⟩
def u1o:Qx prog T 37 y10:=
 ⟨by kernel_rfl,by kernel_rfl,λh=>(by simp at h),λfs h=>(by simp at h)⟩
def v1t:Qx prog T 39 x1i:=
 ⟨by kernel_rfl,by kernel_rfl,λh=>(by simp at h),λfs h=>(by cases h;kernel_rfl)⟩
def u1k:Qx prog T 41 x1m:=
 ⟨by kernel_rfl,by kernel_rfl,λh=>(by simp at h),λfs h=>(by cases h;kernel_rfl)⟩
def v16:Qx prog T 45 x1d:=
 ⟨by kernel_rfl,by kernel_rfl,λh=>(by simp at h),λfs h=>(by simp at h)⟩
def v1d:Qx prog T 48 x1q:=
 ⟨by kernel_rfl,by kernel_rfl,λh=>(by simp at h),λfs h=>(by simp at h)⟩
def v15:Qx prog T 50 y11:=
 ⟨by kernel_rfl,by kernel_rfl,λh=>(by simp at h),λfs h=>(by cases h;kernel_rfl)⟩
def v1u:Qx prog T 52 y16:=
 ⟨by kernel_rfl,by kernel_rfl,λh=>(by simp at h),λfs h=>(by cases h;kernel_rfl)⟩
def u1p:Qx prog T 53 x1v:=
 ⟨by kernel_rfl,by kernel_rfl,λh=>(by simp at h),λfs h=>(by simp at h)⟩
def u1j:Qx prog T 56 x1e:=
 ⟨by kernel_rfl,by kernel_rfl,λh=>(by simp at h),λfs h=>(by simp at h)⟩
def v1m:Qx prog T 58 x1n:=
 ⟨by kernel_rfl,by kernel_rfl,λh=>(by simp at h),λfs h=>(by cases h;kernel_rfl)⟩
def v1z:Qx prog T 59 y19:=
 ⟨by kernel_rfl,by kernel_rfl,λh=>(by simp at h),λfs h=>(by simp at h)⟩
def u1i:Qx prog T 61 y14:=
 ⟨by kernel_rfl,by kernel_rfl,λh=>(by simp at h),λfs h=>(by cases h;kernel_rfl)⟩
def u1x:Qx prog T 74 x1p:=
 ⟨by kernel_rfl,by kernel_rfl,λh=>(by simp at h),λfs h=>(by simp at h)⟩
def x13:Qx prog T 76 x1t:=
 ⟨by kernel_rfl,by kernel_rfl,λh=>(by simp at h),λfs h=>(by cases h;kernel_rfl)⟩
def x15:Qx prog T 78 x1b:=
 ⟨by kernel_rfl,by kernel_rfl,λh=>(by simp at h),λfs h=>(by cases h;kernel_rfl)⟩
def u1q:Qx prog T 85 v1n:=
 ⟨by kernel_rfl,by kernel_rfl,λh=>(by simp at h),λfs h=>(by simp at h)⟩
def x19:Qx prog T 91 x1o:=
 ⟨by kernel_rfl,by kernel_rfl,λh=>(by simp at h),λfs h=>(by simp at h)⟩
def u1d:Qx prog T 93 y12:=
 ⟨by kernel_rfl,by kernel_rfl,λh=>(by simp at h),λfs h=>(by cases h;kernel_rfl)⟩
def v1r:Qx prog T 94 x1u:=
 ⟨by kernel_rfl,by kernel_rfl,λh=>(by simp at h),λfs h=>(by simp at h)⟩
def y1j:Qx prog T 100 j0n:=
 ⟨by kernel_rfl,by kernel_rfl,λ_=>⟨by kernel_rfl,by kernel_rfl⟩,λfs h=>(by cases h;kernel_rfl)⟩
def z13:Qx prog T 101 k03:=
 ⟨by kernel_rfl,by kernel_rfl,λh=>(by simp at h),λfs h=>(by simp at h)⟩
def z1i:Qx prog T 102 u0w:=
 ⟨by kernel_rfl,by kernel_rfl,λh=>(by simp at h),λfs h=>(by simp at h)⟩
def q1o:Qx prog T 104 j0o:=
 ⟨by kernel_rfl,by kernel_rfl,λh=>(by simp at h),λfs h=>(by cases h;kernel_rfl)⟩
def z1l:Qx prog T 106 k02:=
 ⟨by kernel_rfl,by kernel_rfl,λh=>(by simp at h),λfs h=>(by cases h;kernel_rfl)⟩
def y1p:Qx prog T 110 u02:=
 ⟨by kernel_rfl,by kernel_rfl,λh=>(by simp at h),λfs h=>(by simp at h)⟩
def w1z:Qx prog T 112 u0k:=
 ⟨by kernel_rfl,by kernel_rfl,λh=>(by simp at h),λfs h=>(by simp at h)⟩
def q15:Qx prog T 124 v07:=
 ⟨by kernel_rfl,by kernel_rfl,λ_=>⟨by kernel_rfl,by kernel_rfl⟩,λfs h=>(by cases h;kernel_rfl)⟩
def y1n:Qx prog T 126 k0p:=
 ⟨by kernel_rfl,by kernel_rfl,λ_=>⟨by kernel_rfl,by kernel_rfl⟩,λfs h=>(by cases h;kernel_rfl)⟩
def q13:Qx prog T 134 k0x:=
 ⟨by kernel_rfl,by kernel_rfl,λh=>(by simp at h),λfs h=>(by cases h;kernel_rfl)⟩
def y1v:Qx prog T 136 u00:=
 ⟨by kernel_rfl,by kernel_rfl,λh=>(by simp at h),λfs h=>(by simp at h)⟩
def w1m:Qx prog T 139 d0z:=
 ⟨by kernel_rfl,by kernel_rfl,λh=>(by simp at h),λfs h=>(by simp at h)⟩
def y1w:Qx prog T 141 u0c:=
 ⟨by kernel_rfl,by kernel_rfl,λh=>(by simp at h),λfs h=>(by simp at h)⟩
def z1q:Qx prog T 143 j0c:=
 ⟨by kernel_rfl,by kernel_rfl,λh=>(by simp at h),λfs h=>(by cases h;kernel_rfl)⟩
def q1v:Qx prog T 155 j06:=
 ⟨by kernel_rfl,by kernel_rfl,λ_=>⟨by kernel_rfl,by kernel_rfl⟩,λfs h=>(by cases h;kernel_rfl)⟩
def y1o:Qx prog T 165 u01:=
 ⟨by kernel_rfl,by kernel_rfl,λh=>(by simp at h),λfs h=>(by cases h;kernel_rfl)⟩
def z1y:Qx prog T 167 d0d:=
 ⟨by kernel_rfl,by kernel_rfl,λh=>(by simp at h),λfs h=>(by simp at h)⟩
def y1t:Qx prog T 169 g06:=
 ⟨by kernel_rfl,by kernel_rfl,λh=>(by simp at h),λfs h=>(by simp at h)⟩
def q1q:Qx prog T 176 f0h:=
 ⟨by kernel_rfl,by kernel_rfl,λh=>(by simp at h),λfs h=>(by simp at h)⟩
def w10:Qx prog T 177 k0o:=
 ⟨by kernel_rfl,by kernel_rfl,λh=>(by simp at h),λfs h=>(by simp at h)⟩
def w1d:Qx prog T 180 v01:=
 ⟨by kernel_rfl,by kernel_rfl,λh=>(by simp at h),λfs h=>(by simp at h)⟩
def z1h:Qx prog T 182 d00:=
 ⟨by kernel_rfl,by kernel_rfl,λh=>(by simp at h),λfs h=>(by simp at h)⟩
def q10:Qx prog T 184 d0b:=
 ⟨by kernel_rfl,by kernel_rfl,λh=>(by simp at h),λfs h=>(by simp at h)⟩
def q1w:Qx prog T 193 d0o:=
 ⟨by kernel_rfl,by kernel_rfl,λh=>(by simp at h),λfs h=>(by simp at h)⟩
def w1q:Qx prog T 196 k0n:=
 ⟨by kernel_rfl,by kernel_rfl,λh=>(by simp at h),λfs h=>(by simp at h)⟩
def y1k:Qx prog T 198 g00:=
 ⟨by kernel_rfl,by kernel_rfl,λh=>(by simp at h),λfs h=>(by simp at h)⟩
def z11:Qx prog T 201 g07:=
 ⟨by kernel_rfl,by kernel_rfl,λh=>(by simp at h),λfs h=>(by simp at h)⟩
def w13:Qx prog T 203 k0v:=
 ⟨by kernel_rfl,by kernel_rfl,λh=>(by simp at h),λfs h=>(by simp at h)⟩
def q1y:Qx prog T 205 u0d:=
 ⟨by kernel_rfl,by kernel_rfl,λh=>(by simp at h),λfs h=>(by cases h;kernel_rfl)⟩
def q11:Qx prog T 208 c0y:=
 ⟨by kernel_rfl,by kernel_rfl,λh=>(by simp at h),λfs h=>(by simp at h)⟩
def q1j:Qx prog T 210 d0k:=
 ⟨by kernel_rfl,by kernel_rfl,λh=>(by simp at h),λfs h=>(by simp at h)⟩
def w1x:Qx prog T 212 f01:=
 ⟨by kernel_rfl,by kernel_rfl,λh=>(by simp at h),λfs h=>(by simp at h)⟩
def z1n:Qx prog T 214 f0v:=
 ⟨by kernel_rfl,by kernel_rfl,λh=>(by simp at h),λfs h=>(by simp at h)⟩
def y1y:Qx prog T 217 c0d:=
 ⟨by kernel_rfl,by kernel_rfl,λh=>(by simp at h),λfs h=>(by simp at h)⟩
def y1e:Qx prog T 222 c07:=
 ⟨by kernel_rfl,by kernel_rfl,λ_=>⟨by kernel_rfl,by kernel_rfl⟩,λfs h=>(by simp at h)⟩
def w1p:Qx prog T 226 c0i:=
 ⟨by kernel_rfl,by kernel_rfl,λh=>(by simp at h),λfs h=>(by simp at h)⟩
def w1u:Qx prog T 230 k0k:=
 ⟨by kernel_rfl,by kernel_rfl,λh=>(by simp at h),λfs h=>(by simp at h)⟩
def q1i:Qx prog T 242 u0a:=
 ⟨by kernel_rfl,by kernel_rfl,λh=>(by simp at h),λfs h=>(by simp at h)⟩
def q1s:Qx prog T 244 k0d:=
 ⟨by kernel_rfl,by kernel_rfl,λh=>(by simp at h),λfs h=>(by simp at h)⟩
def q1p:Qx prog T 246 g01:=
 ⟨by kernel_rfl,by kernel_rfl,λh=>(by simp at h),λfs h=>(by simp at h)⟩
def z1f:Qx prog T 248 j00:=
 ⟨by kernel_rfl,by kernel_rfl,λ_=>⟨by kernel_rfl,by kernel_rfl⟩,λfs h=>(by cases h;kernel_rfl)⟩
def q16:Qx prog T 249 d0e:=
 ⟨by kernel_rfl,by kernel_rfl,λh=>(by simp at h),λfs h=>(by simp at h)⟩
def q14:Qx prog T 251 f0g:=
 ⟨by kernel_rfl,by kernel_rfl,λh=>(by simp at h),λfs h=>(by simp at h)⟩
def w1o:Qx prog T 253 d08:=
 ⟨by kernel_rfl,by kernel_rfl,λh=>(by simp at h),λfs h=>(by simp at h)⟩
def y1b:Qx prog T 258 k0a:=
 ⟨by kernel_rfl,by kernel_rfl,λ_=>⟨by kernel_rfl,by kernel_rfl⟩,λfs h=>(by cases h;kernel_rfl)⟩
def q1m:Qx prog T 259 c0q:=
 ⟨by kernel_rfl,by kernel_rfl,λh=>(by simp at h),λfs h=>(by simp at h)⟩
def y1u:Qx prog T 261 g05:=
 ⟨by kernel_rfl,by kernel_rfl,λh=>(by simp at h),λfs h=>(by simp at h)⟩
def q1r:Qx prog T 263 d05:=
 ⟨by kernel_rfl,by kernel_rfl,λh=>(by simp at h),λfs h=>(by simp at h)⟩
def z14:Qx prog T 282 g02:=
 ⟨by kernel_rfl,by kernel_rfl,λh=>(by simp at h),λfs h=>(by simp at h)⟩
def w1v:Qx prog T 284 f0p:=
 ⟨by kernel_rfl,by kernel_rfl,λh=>(by simp at h),λfs h=>(by simp at h)⟩
def y1q:Qx prog T 287 v0r:=
 ⟨by kernel_rfl,by kernel_rfl,λh=>(by simp at h),λfs h=>(by simp at h)⟩
def q1z:Qx prog T 289 k0g:=
 ⟨by kernel_rfl,by kernel_rfl,λh=>(by simp at h),λfs h=>(by cases h;kernel_rfl)⟩
def w1s:Qx prog T 290 c0u:=
 ⟨by kernel_rfl,by kernel_rfl,λh=>(by simp at h),λfs h=>(by simp at h)⟩
def z1e:Qx prog T 292 u0h:=
 ⟨by kernel_rfl,by kernel_rfl,λh=>(by simp at h),λfs h=>(by simp at h)⟩
def w1y:Qx prog T 294 j07:=
 ⟨by kernel_rfl,by kernel_rfl,λh=>(by simp at h),λfs h=>(by cases h;kernel_rfl)⟩
def q1k:Qx prog T 295 f0b:=
 ⟨by kernel_rfl,by kernel_rfl,λh=>(by simp at h),λfs h=>(by simp at h)⟩
def w1r:Qx prog T 310 c0w:=
 ⟨by kernel_rfl,by kernel_rfl,λh=>(by simp at h),λfs h=>(by simp at h)⟩
def y1r:Qx prog T 314 f0t:=
 ⟨by kernel_rfl,by kernel_rfl,λh=>(by simp at h),λfs h=>(by simp at h)⟩
def y1h:Qx prog T 317 j0u:=
 ⟨by kernel_rfl,by kernel_rfl,λ_=>⟨by kernel_rfl,by kernel_rfl⟩,λfs h=>(by cases h;kernel_rfl)⟩
def z1k:Qx prog T 318 f0z:=
 ⟨by kernel_rfl,by kernel_rfl,λh=>(by simp at h),λfs h=>(by simp at h)⟩
def z1a:Qx prog T 332 c0t:=
 ⟨by kernel_rfl,by kernel_rfl,λh=>(by simp at h),λfs h=>(by simp at h)⟩
def z16:Qx prog T 334 c0m:=
 ⟨by kernel_rfl,by kernel_rfl,λh=>(by simp at h),λfs h=>(by simp at h)⟩
def z1o:Qx prog T 344 d0n:=
 ⟨by kernel_rfl,by kernel_rfl,λh=>(by simp at h),λfs h=>(by simp at h)⟩
def z1x:Qx prog T 346 d06:=
 ⟨by kernel_rfl,by kernel_rfl,λh=>(by simp at h),λfs h=>(by simp at h)⟩
theorem tOk:TOk prog T:=λt i h=>by
 have hm:=I5 h;simp only[T,y_,List.not_mem_nil,or_false,Prod.mk.injEq]at hm;rcases hm with⟨rfl,rfl⟩|⟨rfl,rfl⟩|⟨rfl,rfl⟩|⟨rfl,rfl⟩|⟨rfl,rfl⟩|⟨rfl,rfl⟩|⟨rfl,rfl⟩|⟨rfl,rfl⟩|⟨rfl,rfl⟩|⟨rfl,rfl⟩|⟨rfl,rfl⟩|⟨rfl,rfl⟩|⟨rfl,rfl⟩|⟨rfl,rfl⟩|⟨rfl,rfl⟩|⟨rfl,rfl⟩|⟨rfl,rfl⟩|⟨rfl,rfl⟩|⟨rfl,rfl⟩|⟨rfl,rfl⟩|⟨rfl,rfl⟩|⟨rfl,rfl⟩|⟨rfl,rfl⟩|⟨rfl,rfl⟩|⟨rfl,rfl⟩|⟨rfl,rfl⟩|⟨rfl,rfl⟩|⟨rfl,rfl⟩|⟨rfl,rfl⟩|⟨rfl,rfl⟩|⟨rfl,rfl⟩|⟨rfl,rfl⟩|⟨rfl,rfl⟩|⟨rfl,rfl⟩|⟨rfl,rfl⟩|⟨rfl,rfl⟩|⟨rfl,rfl⟩|⟨rfl,rfl⟩|⟨rfl,rfl⟩|⟨rfl,rfl⟩|⟨rfl,rfl⟩|⟨rfl,rfl⟩|⟨rfl,rfl⟩|⟨rfl,rfl⟩|⟨rfl,rfl⟩|⟨rfl,rfl⟩|⟨rfl,rfl⟩|⟨rfl,rfl⟩|⟨rfl,rfl⟩|⟨rfl,rfl⟩|⟨rfl,rfl⟩|⟨rfl,rfl⟩|⟨rfl,rfl⟩|⟨rfl,rfl⟩|⟨rfl,rfl⟩|⟨rfl,rfl⟩|⟨rfl,rfl⟩|⟨rfl,rfl⟩|⟨rfl,rfl⟩|⟨rfl,rfl⟩|⟨rfl,rfl⟩|⟨rfl,rfl⟩|⟨rfl,rfl⟩|⟨rfl,rfl⟩|⟨rfl,rfl⟩|⟨rfl,rfl⟩|⟨rfl,rfl⟩|⟨rfl,rfl⟩|⟨rfl,rfl⟩|⟨rfl,rfl⟩|⟨rfl,rfl⟩|⟨rfl,rfl⟩|⟨rfl,rfl⟩|⟨rfl,rfl⟩|⟨rfl,rfl⟩|⟨rfl,rfl⟩|⟨rfl,rfl⟩|⟨rfl,rfl⟩|⟨rfl,rfl⟩|⟨rfl,rfl⟩|⟨rfl,rfl⟩|⟨rfl,rfl⟩|⟨rfl,rfl⟩|⟨rfl,rfl⟩|⟨rfl,rfl⟩|⟨rfl,rfl⟩|⟨rfl,rfl⟩|⟨rfl,rfl⟩|⟨rfl,rfl⟩|⟨rfl,rfl⟩|⟨rfl,rfl⟩|⟨rfl,rfl⟩|⟨rfl,rfl⟩|⟨rfl,rfl⟩|⟨rfl,rfl⟩|⟨rfl,rfl⟩
 ·exact k1q
 ·exact k1p
 ·exact k11
 ·exact k19
 ·exact k10
 ·exact u1y
 ·exact u1s
 ·exact v1g
 ·exact u1b
 ·exact v18
 ·exact v1v
 ·exact x16
 ·exact v1q
 ·exact u1o
 ·exact v1t
 ·exact u1k
 ·exact v16
 ·exact v1d
 ·exact v15
 ·exact v1u
 ·exact u1p
 ·exact u1j
 ·exact v1m
 ·exact v1z
 ·exact u1i
 ·exact u1x
 ·exact x13
 ·exact x15
 ·exact u1q
 ·exact x19
 ·exact u1d
 ·exact v1r
 ·exact y1j
 ·exact z13
 ·exact z1i
 ·exact q1o
 ·exact z1l
 ·exact y1p
 ·exact w1z
 ·exact q15
 ·exact y1n
 ·exact q13
 ·exact y1v
 ·exact w1m
 ·exact y1w
 ·exact z1q
 ·exact q1v
 ·exact y1o
 ·exact z1y
 ·exact y1t
 ·exact q1q
 ·exact w10
 ·exact w1d
 ·exact z1h
 ·exact q10
 ·exact q1w
 ·exact w1q
 ·exact y1k
 ·exact z11
 ·exact w13
 ·exact q1y
 ·exact q11
 ·exact q1j
 ·exact w1x
 ·exact z1n
 ·exact y1y
 ·exact y1e
 ·exact w1p
 ·exact w1u
 ·exact q1i
 ·exact q1s
 ·exact q1p
 ·exact z1f
 ·exact q16
 ·exact q14
 ·exact w1o
 ·exact y1b
 ·exact q1m
 ·exact y1u
 ·exact q1r
 ·exact z14
 ·exact w1v
 ·exact y1q
 ·exact q1z
 ·exact w1s
 ·exact z1e
 ·exact w1y
 ·exact q1k
 ·exact w1r
 ·exact y1r
 ·exact y1h
 ·exact z1k
 ·exact z1a
 ·exact z16
 ·exact z1o
 exact z1x
def T2:look T 2=some D2_:=rfl
def T3:look T 3=some D3_:=rfl
def T4:look T 4=some D4_:=rfl
def T5:look T 5=some D5_:=rfl
def T9:look T 9=some D9_:=rfl
def T22:look T 22=some x1a:=rfl
def T23:look T 23=some x1r:=rfl
def T25:look T 25=some x1l:=rfl
def T30:look T 30=some x1g:=rfl
def T32:look T 32=some y13:=rfl
def T33:look T 33=some x1w:=rfl
def T34:look T 34=some x1c:=rfl
def T36:look T 36=some x1s:=rfl
def T37:look T 37=some y10:=rfl
def T39:look T 39=some x1i:=rfl
def T41:look T 41=some x1m:=rfl
def T45:look T 45=some x1d:=rfl
def T48:look T 48=some x1q:=rfl
def T50:look T 50=some y11:=rfl
def T52:look T 52=some y16:=rfl
def T53:look T 53=some x1v:=rfl
def T56:look T 56=some x1e:=rfl
def T58:look T 58=some x1n:=rfl
def T59:look T 59=some y19:=rfl
def T61:look T 61=some y14:=rfl
def T74:look T 74=some x1p:=rfl
def T76:look T 76=some x1t:=rfl
def T78:look T 78=some x1b:=rfl
def T91:look T 91=some x1o:=rfl
def T93:look T 93=some y12:=rfl
def T94:look T 94=some x1u:=rfl
def u15:look T 100=some j0n:=rfl
def k1a:look T 101=some k03:=rfl
def u17:look T 102=some u0w:=rfl
def k1x:look T 104=some j0o:=rfl
def v1f:look T 106=some k02:=rfl
def k1o:look T 110=some u02:=rfl
def k1d:look T 112=some u0k:=rfl
def k1l:look T 124=some v07:=rfl
def v1k:look T 126=some k0p:=rfl
def q1b:look T 134=some k0x:=rfl
def k1t:look T 136=some u00:=rfl
def j1c:look T 141=some u0c:=rfl
def k1y:look T 143=some j0c:=rfl
def q08:look T 155=some j06:=rfl
def k1s:look T 165=some u01:=rfl
def k1r:look T 177=some k0o:=rfl
def k1u:look T 180=some v01:=rfl
def k15:look T 196=some k0n:=rfl
def k13:look T 203=some k0v:=rfl
def j1b:look T 205=some u0d:=rfl
def x1x:look T 230=some k0k:=rfl
def k14:look T 242=some u0a:=rfl
def k1w:look T 244=some k0d:=rfl
def k16:look T 248=some j00:=rfl
def k1k:look T 258=some k0a:=rfl
def k1e:look T 287=some v0r:=rfl
def v1p:look T 289=some k0g:=rfl
def k1g:look T 292=some u0h:=rfl
def u12:look T 294=some j07:=rfl
def k1i:look T 317=some j0u:=rfl
def mixed:prog.follows .mixedOrders=true:=by kernel_rfl
end
section
open Go.Proofs
def Hr:List Value:=Lib.pow10Tab.map λz=>Value.int .u64 z
def z0m(cs:List Value):Prop:=∃m,cs=[.int .i64 m]
def D1(cs:List Value):Prop:=∃ev,cs=[ev]/\(ev= .nilIface\/∃te pe,ev= .iface te pe)
noncomputable instance env:Env prog:=⟨[(0,(·=Hr)),(7,z0m),(3,D1),(4,D1)]⟩
section
variable {P:Program} [Env P]
def ctA(P:Program)[Env P](T:TT)(nt k:Nat):Code->(Exit->AS->Prop)->AS->Option Prop
 |.seq x y,Q,S=>ctA P T nt k x (O7 (AWP P nt k y Q) Q) S
 |.block i c,Q,S=>ctA P T nt k c (Dz i Q) S
 |.region _ ⟨l⟩ false,Q,S=>match Yh nt l with
  |true=>some (Dv P T nt k l.toArray (Q .normal) l S)
  |false=>none
 |.skip,Q,S=>some (Q .normal S)
 |.exit i,Q,S=>some (Q (.exit i) S)
 |.ret,Q,S=>some (Q .ret S)
 |_,_,_=>none
def d07{T:TT}{nt k:Nat}(hT:TOk P T){X:Prop}(x:X):∀(c:Code) (Q:Exit->AS->Prop) (S:AS),ctA P T nt k c Q S=some X->AWP P nt k c Q S
 |.seq _ _,_,S,h=>R0 (d07 hT x _ _ S h)
 |.block _ _,_,S,h=>D6 (d07 hT x _ _ S h)
 |.region i ⟨l⟩ false,Q,S,h=>by
  unfold ctA at h;split at h
  ·rename_i hd;cases h;exact I8 hT hd x
  cases h
 |.region _ ⟨_⟩ true,_,_,h=>nomatch h
 |.skip,_,_,h=>by cases h;exact Vy x
 |.exit _,_,_,h=>by cases h;exact Bu x
 |.ret,_,_,h=>by cases h;exact Ci x
 |.cond ..,_,_,h=>nomatch h
 |.loop ..,_,_,h=>nomatch h
 |.rangeFunc ..,_,_,h=>nomatch h
 |.scope ..,_,_,h=>nomatch h
 |.label ..,_,_,h=>nomatch h
 |.goto ..,_,_,h=>nomatch h
end
def cwA(P:Program)[Env P](nt k:Nat):Code->(Exit->AS->Prop)->AS->Prop
 |.seq x y,Q,S=>cwA P nt k x (O7 (AWP P nt k y Q) Q) S
 |.block i c,Q,S=>cwA P nt k c (Dz i Q) S
 |c,Q,S=>AWP P nt k c Q S
def f03{P:Program}[Env P]{nt k:Nat}:∀(c:Code) (Q:Exit->AS->Prop) (S:AS),cwA P nt k c Q S->AWP P nt k c Q S
 |.seq _ _,_,S,h=>R0 (f03 _ _ S h)
 |.block _ _,_,S,h=>D6 (f03 _ _ S h)
 |.region ..,_,_,h=>h
 |.skip,_,_,h=>h
 |.exit _,_,_,h=>h
 |.ret,_,_,h=>h
 |.cond ..,_,_,h=>h
 |.loop ..,_,_,h=>h
 |.rangeFunc ..,_,_,h=>h
 |.scope ..,_,_,h=>h
 |.label ..,_,_,h=>h
 |.goto ..,_,_,h=>h
 |.refuse _,_,_,h=>h
def v19:Code->Bool
 |.seq ..=>true
 |.block ..=>true
 |_=>false
def csA(P:Program)[Env P](T:TT)(nt k:Nat)(c:Code)(Q:Exit->AS->Prop)(S:AS):Option Prop:=match ctA P T nt k c Q S with
 |some X=>some X
 |none=>match v19 c with
  |true=>some (cwA P nt k c Q S)
  |false=>none
def M_(p:Prop):Prop:=p
@[simp] theorem M_eq (p:Prop):M_ p=p:=rfl
def s_{nt k:Nat}{c:Code}{Q:Exit->AS->Prop}{S:AS}{X:Prop}(x:M_ X)(h:csA prog T nt k c Q S=some X:=by rfl):AWP prog nt k c Q S:=by
 unfold csA at h;split at h
 ·rename_i Y hY;cases h;exact d07 tOk x c Q S hY
 split at h
 ·cases h;exact f03 c Q S x
 cases h
def z0d{w:World}{I:Nat->Prop}(h:EOK prog w I):Lib.TabIs prog w "internal/strconv.uint64pow10" .u64 Lib.pow10Tab:=by
 obtain⟨_,_,t,fr,rfl,hb⟩:=h 0 (·=Hr) (by first|exact xd.2 rfl|exact ve)
 unfold Lib.TabIs World.var?;rw[show prog.globalNamed "internal/strconv.uint64pow10" =some 0 by kernel_rfl]
 simp only[Option.bind_some,hb];rfl
def Gg{w:World}{I:Nat->Prop}(h:EOK prog w I):∃ev,w.cell? ⟨3,0,none⟩=some ev/\(ev= .nilIface\/∃te pe,ev= .iface te pe):=by obtain⟨_,_,t,fr,⟨m,rfl,hm⟩,hb⟩:=h 3 D1 (xA _ (xA _ ve));exact⟨m,by rw[Lib.cell_of_heap hb];rfl,hm⟩
def Ju{w:World}{I:Nat->Prop}(h:EOK prog w I):∃ev,w.cell? ⟨4,0,none⟩=some ev/\(ev= .nilIface\/∃te pe,ev= .iface te pe):=by obtain⟨_,_,t,fr,⟨m,rfl,hm⟩,hb⟩:=h 4 D1 (xA _ (xA _ (xA _ ve)));exact⟨m,by rw[Lib.cell_of_heap hb];rfl,hm⟩
end
section
open Go.Proofs
attribute [simp] T3 T4 T5 T9 T22 u15 T45 k1e k14 T2 k1w
def Sx{α:Type}{c:Bool}{a b:α}(h:c=true):(if c=true then a else b)=a:=by rw[if_pos h]
def Ai{α:Type}{c:Bool}{a b:α}(h:c=false):(if c=true then a else b)=b:=by rw[if_neg (by rw[h];decide)]
@[simp] def encI (n:Int):AV:= .int .i64 n
abbrev AV.i (n:Int):AV:= .int .i64 n
abbrev W (n:Int):Int:=IntKind.i64.wrap n
def wrap_i64(n:Int)(h1: -9223372036854775808<=n)(h2:n<=9223372036854775807):IntKind.i64.wrap n=n:=by rw[IntKind.wrap_i64];omega
section
variable {P:Program} [Env P] {nt k:Nat} {S:AS} {ops:Array Oper} {o:Oper} {R:AS->Prop}
def pcL{wr:Bool}{f:FuncId}{xs args:List AV}{v:AV}(hc:PC P f args (λr=>r=v))(hR:R (S.putD o.dst v))(hw:Q9 ops S o=some true:=by exact rfl)(h:Yr S o.op=some (f,xs):=by exact rfl)(hp:xs.all AV.pure=true:=by simp)(he:xs.map AV.nrm=args:=by exact rfl)(hd:Ek nt o=true:=by exact rfl):Wu P nt k wr ops o S R:=
 Ui (Rf:=λr=>r=v) hw h hp (by rw[he];exact hc) hd (by intro r hr;subst hr;exact hR)
end
def pcB {f:FuncId} {fn:Func} {c:Code} {rs:List ResultVar} {n:Nat} {args:List AV} {R:AV->Prop} (hf:prog.funcs[f]?=some fn) (z1:fn.results=rs.toArray) (hn:fn.ntmps=n) (h:AWP prog n 0 c (c0s T rs λr H=>∃y,Tb H r=some y/\R y) ⟨Qf 0 args,[]⟩) (hb:fn.body=some c:=by exact rfl) (z8:(fn.name== "runtime.NumGoroutine")=false:=by exact rfl) (hl:Nat.ble args.length n=true:=by exact rfl):PC prog f args R:=by
 subst hn;exact d0x tOk hf hb z1 z8 (vR hl) h
def fcB {f:FuncId} {fn:Func} {c:Code} {rs:List ResultVar} {n:Nat} {args:List AV} {H:List AObj} {R:AV->List AObj->Prop} (hf:prog.funcs[f]?=some fn) (z1:fn.results=rs.toArray) (hn:fn.ntmps=n) (h:AWP prog n H.length c (c0s T rs R) ⟨Qf 0 args,H⟩) (hb:fn.body=some c:=by exact rfl) (z8:(fn.name== "runtime.NumGoroutine")=false:=by exact rfl) (hl:Nat.ble args.length n=true:=by exact rfl):FC prog f args H R:=by
 subst hn;exact d0h tOk hf hb z1 z8 (vR hl) h
section
variable {nt k:Nat} {S:AS} {ops:Array Oper} {o:Oper} {R:AS->Prop}
def apS {s x:Operand} {t e:TypeId} {it ei:TI} (ht:look T t=some it) (he:look T e=some ei) {sv xv:AV}
  (hR:match R8 S e ei.size sv,U3 S.hp xv with
   |some (xs,H1),some ys=>Em ei xs ys/\R (({ S with hp:=H1++[.arr e ei.size (xs++ys)] }:AS).putD o.dst (.sl S.hp.length ei.size 0 (xs.length+ys.length)))
   |_,_=>False)
  (hw:Q9 ops S o=some true:=by exact rfl) (ho:o.op= .call ⟨.builtin .append,#[s,x],#[t,t]⟩:=by exact rfl) (z1:it.desc= .slice e:=by exact rfl) (hz:ei.zero.cells.size=ei.size:=by exact rfl) (z8:0<ei.size:=by decide) (za:0<ei.bytes:=by decide) (hs:rho S.sl s=some sv:=by exact rfl) (hx:rho S.sl x=some xv:=by exact rfl) (hd:Ek nt o=true:=by exact rfl):Wu prog nt k true ops o S R:=
 Jo tOk hw ho ht z1 he hz z8 za hs hx hd hR
end
section
variable {P:Program} [Env P] {nt k:Nat} {Q:Exit->AS->Prop}
end
section
variable {P:Program} [Env P] {nt k:Nat} {Q:Exit->AS->Prop}
end
def Plan.pv:Nat->Nat->Plan->Plan
 |_,0,p=>p
 |i,n+1,p=> .val i (Plan.pv (i+1) n p)
attribute [simp] Plan.pv
def wz(n:Nat)(h:n<9223372036854775807):IntKind.i64.wrap ((n:Int)+1)=n+1:=wrap_i64 _ (by omega) (by omega)
end
section
open Go.Proofs
structure Val where
 kind:Int
 num:Int
 text:List UInt8
deriving Inhabited,DecidableEq
@[simp] def encV (v:Val):AV:= .agg [.int .i64 v.kind,.int .i64 v.num,.str v.text]
def Kv(v:Val):Int:=if(v.kind==0 && (decide (v.num< -1099511627776) || decide (1099511627776<v.num)))=true then 2 else if(v.kind==1 && v.num != 0 && v.num != 1)=true then 2 else if decide ((64:Int)<v.text.length)=true then 13 else 0
def Ce(v:Val):PC prog 217 [encV v] (λr=>r= .i (Kv v)):=by
 refine pcB func217 results217 ntmps217 ?_;simp only[Qf];simp only[encV];repeat(refine s_ ?_;simp)
 refine Qb rfl (λh=>?_) (λh1=>?_)
 ·repeat(refine s_ ?_;simp)
  rw[Kv,Sx h]
 repeat(refine s_ ?_;simp)
 refine Qb rfl (λh=>?_) (λh2=>?_)
 ·repeat(refine s_ ?_;simp)
  rw[Kv,Ai h1,Sx h]
 repeat(refine s_ ?_;simp)
 refine Qb rfl (λh=>?_) (λh3=>?_)
 ·repeat(refine s_ ?_;simp)
  rw[Kv,Ai h1,Ai h2,Sx h]
 repeat(refine s_ ?_;simp)
 rw[Kv,Ai h1,Ai h2,Ai h3]
def Ej(v:Val):Int:=if(v.kind==0 || v.kind==1)=true then(if(!v.text.isEmpty)=true then 3 else Kv v)else if(v.kind==2)=true then(if(v.num != 0)=true then 3 else Kv v)else 1
def Pj(v:Val):PC prog 195 [encV v] (λr=>r= .i (Ej v)):=by
 refine pcB func195 results195 ntmps195 ?_;simp only[Qf];simp only[encV];repeat(refine s_ ?_;simp)
 refine Qb rfl (λh=>?_) (λh=>?_)
 ·repeat(refine s_ ?_;simp)
  refine Qh (b:=true) (by simp[h]) ?_;repeat(refine s_ ?_;simp)
  refine Qb rfl (λht=>?_) (λht=>?_)
  ·repeat(refine s_ ?_;simp)
   rw[Ej,Sx (by simp[h]),Sx ht]
  repeat(refine s_ ?_;simp)
  refine pcL (Ce v) ?_;simp;repeat(refine s_ ?_;simp)
  rw[Ej,Sx (by simp[h]),Ai ht]
 repeat(refine s_ ?_;simp)
 refine Qb rfl (λh1=>?_) (λh1=>?_)
 ·repeat(refine s_ ?_;simp)
  refine Qb rfl (λht=>?_) (λht=>?_)
  ·repeat(refine s_ ?_;simp)
   rw[Ej,Sx (by simp[h1]),Sx ht]
  repeat(refine s_ ?_;simp)
  refine pcL (Ce v) ?_;simp;repeat(refine s_ ?_;simp)
  rw[Ej,Sx (by simp[h1]),Ai ht]
 repeat(refine s_ ?_;simp)
 refine Qb rfl (λh2=>?_) (λh2=>?_)
 ·repeat(refine s_ ?_;simp)
  refine Qb rfl (λhn=>?_) (λhn=>?_)
  ·repeat(refine s_ ?_;simp)
   rw[Ej,Ai (by simp[h,h1]),Sx h2,Sx hn]
  repeat(refine s_ ?_;simp)
  refine pcL (Ce v) ?_;simp;repeat(refine s_ ?_;simp)
  rw[Ej,Ai (by simp[h,h1]),Sx h2,Ai hn]
 repeat(refine s_ ?_;simp)
 rw[Ej,Ai (by simp[h,h1]),Ai h2]
end
section
open Go.Proofs
structure Ev where
 source:Int
 seq:Int
 type:Int
 time:Int
 values:List Val
deriving Inhabited,DecidableEq
@[simp] def encE (e:Ev):AV:= .agg [.int .i64 e.source,.int .i64 e.seq,.int .i64 e.type,.int .i64 e.time,.list (e.values.map encV)]
end
def zig(n:Int):Nat:=if 0<=n then(2 * n).toNat else(-2 * n - 1).toNat
def zag(u:Nat):Int:=if u % 2=0 then((u / 2:Nat):Int)else -((u / 2:Nat):Int) - 1
def c02(n:Int):zag (zig n)=n:=by unfold zag zig;split<;>split<;>omega
def w0c:Nat->Nat->List UInt8
 |0,_=>[]
 |k+1,u=>if u<128 then [UInt8.ofNat u]else UInt8.ofNat (u % 128+128)::w0c k (u / 128)
def v1x(u:Nat):List UInt8:=w0c 10 u
def Wm(n:Int):List UInt8:=v1x (zig n)
def Mh:Nat->Nat->Nat->List UInt8->Option (Nat×List UInt8)
 |0,_,_,_=>none
 |_+1,_,_,[]=>none
 |k+1,i,u,c::r=>if(0<i/\c.toNat=0)\/(i=9/\1<c.toNat)then none
   else if c.toNat<128 then some (u+c.toNat % 128 * 2 ^ (7 * i),r)else Mh k (i+1) (u+c.toNat % 128 * 2 ^ (7 * i)) r
def q1g(s:List UInt8):Option (Int×List UInt8):=(Mh 10 0 0 s).map λp=>(zag p.1,p.2)
def w0n:∀(k i u v:Nat) (r:List UInt8),i+k=10->(0<i->0<u)->u<2 ^ (64 - 7 * i)->Mh k i v (w0c k u++r)=some (v+u * 2 ^ (7 * i),r)
 |0,i,u,v,r,hi,_,hu=>by
  have:i=10:=by omega
  subst this;simp at hu;rename_i h;have:=h (by omega);omega
 |k+1,i,u,v,r,hi,h0,hu=>by
  rw[w0c];by_cases h:u<128
  ·rw[if_pos h,xX,wo,Mh];have hn:(UInt8.ofNat u).toNat=u:=by simp;omega
   rw[hn];have h9:¬((0<i/\u=0)\/(i=9/\1<u)):=by
    rintro(⟨h1,h2⟩|⟨h1,h2⟩)
    ·have:=h0 h1;omega
    subst h1;simp at hu;omega
   rw[if_neg h9,if_pos h,wn h]
  rw[if_neg h,xX,Mh];have hn:(UInt8.ofNat (u % 128+128)).toNat=u % 128+128:=by simp;omega
  rw[hn];have z1:i≠9:=by intro e;subst e;simp at hu;omega
  have h9:¬((0<i/\u % 128+128=0)\/(i=9/\1<u % 128+128)):=by
   rintro(⟨_,h2⟩|⟨h1,_⟩)
   ·omega
   exact z1 h1
  rw[if_neg h9,if_neg (by omega),Nat.add_mod_right,Nat.mod_mod];have hp:2 ^ (64 - 7 * i)=128 * 2 ^ (64 - 7 * (i+1)):=by rw[show 64 - 7 * i=7+(64 - 7 * (i+1)) by omega,uA]
  have z8:u / 128<2 ^ (64 - 7 * (i+1)):=by rw[Nat.div_lt_iff_lt_mul (by omega),wA];omega
  rw[w0n k (i+1) (u / 128) _ r (by omega) (λ_=>by omega) z8]
  congr 2
  rw[show 7 * (i+1)=7 * i+7 by omega,uA,Nat.add_assoc]
  congr 1
  have h2:u / 128 * (2 ^ (7 * i) * 2 ^ 7)=(128 * (u / 128)) * 2 ^ (7 * i):=by rw[show(2:Nat) ^ 7=128 from rfl,wA (2 ^ (7 * i)) 128,<-Nat.mul_assoc,wA (u / 128) 128]
  rw[h2,<-yA]
  congr 1
  omega
def f07(n:Int)(h1: -9223372036854775808<=n)(h2:n<=9223372036854775807)(r:List UInt8):q1g (Wm n++r)=some (n,r):=by
 unfold q1g Wm v1x;have hz:zig n<2 ^ 64:=by unfold zig;split<;>simp<;>omega
 rw[w0n 10 0 (zig n) 0 r rfl (λh=>absurd h (by omega)) (by simpa using hz)];simp[c02]
def Bj:∀(k u:Nat),(w0c k u).length<=k
 |0,_=>by simp[w0c]
 |k+1,u=>by
  rw[w0c];split
  ·simp
  have:=Bj k (u / 128);simp;omega
def Pd(n:Int):(Wm n).length<=10:=Bj _ _
def V8(n:Int):0<(Wm n).length:=by unfold Wm v1x;rw[w0c];split<;>simp
structure Dc where
 s:List UInt8
 e:Int
deriving Inhabited,DecidableEq
def Dc.fail(d:Dc)(x:Int):Dc:=if d.e=0 then⟨d.s,x⟩else d
def bd{α β:Type}(F:Dc->α×Dc)(G:α->Dc->β×Dc)(d:Dc):β×Dc:=G (F d).1 (F d).2
def rtn{α:Type}(x:α)(d:Dc):α×Dc:=(x,d)
def E7{α:Type}(F:Dc->α×Dc):Nat->Dc->List α×Dc
 |0,d=>([],d)
 |n+1,d=>if d.e≠0 then([],d)else((F d).1::(E7 F n (F d).2).1,(E7 F n (F d).2).2)
def Rt{α:Type}(F:Dc->α×Dc)(enc:α->List UInt8)(ok:α->Prop):Prop:=∀x,ok x->∀r,F ⟨enc x++r,0⟩=(x,⟨r,0⟩)
def Rt.loop{α:Type}{F:Dc->α×Dc}{enc:α->List UInt8}{ok:α->Prop}(h:Rt F enc ok):∀(l:List α),(∀x∈l,ok x)->∀r,E7 F l.length ⟨l.flatMap enc++r,0⟩=(l,⟨r,0⟩)
 |[],_,r=>rfl
 |x::l,hl,r=>by rw[yQ,E7,if_neg (λh=>h rfl),wt,yL,h x (hl x (by simp)),Rt.loop h l (λy hy=>hl y (by simp[hy]))]
def i64(n:Int):Prop:= -9223372036854775808<=n/\n<=9223372036854775807
def pI(d:Dc):Int×Dc:=if d.e≠0 then(0,d)else match q1g d.s with
 |some (n,r)=>(n,⟨r,0⟩)
 |none=>(0,⟨d.s,26⟩)
def Tr:Rt pI Wm i64:=λn hn r=>by rw[pI,if_neg (λh=>h rfl),f07 n hn.1 hn.2]
def pL{α:Type}(F:Dc->α×Dc):Dc->List α×Dc:=bd pI λn d=>if n<0\/4096<n then E7 F n.toNat (d.fail 5)else E7 F n.toNat d
def Rh{α:Type}(enc:α->List UInt8)(l:List α):List UInt8:=Wm l.length++l.flatMap enc
def Rt.list{α:Type}{F:Dc->α×Dc}{enc:α->List UInt8}{ok:α->Prop}(h:Rt F enc ok):Rt (pL F) (Rh enc) (λl=>l.length<=4096/\∀x∈l,ok x):=λl hl r=>by unfold pL bd Rh;rw[yL,Tr (l.length:Int) ⟨by omega,by omega⟩];simp only;rw[if_neg (by omega),xn,Rt.loop h l hl.2]
def Sj:Dc->List UInt8×Dc:=bd pI λn d=>
 let d':=if n<0\/64<n then d.fail 13 else if(d.s.length:Int)<n then d.fail 26 else d
 if d'.e≠0 then([],d')else(d'.s.take n.toNat,⟨d'.s.drop n.toNat,d'.e⟩)
def q1f(s:List UInt8):List UInt8:=Wm s.length++s
def f0n:Rt Sj q1f (λs=>s.length<=64):=λs hs r=>by
 unfold Sj bd q1f;rw[yL,Tr (s.length:Int) ⟨by omega,by omega⟩];have h1:¬((s.length:Int)<0\/64<(s.length:Int)):=by omega
 have h2:¬(((s++r).length:Int)<s.length):=by simp;omega
 simp only[if_neg h1,if_neg h2];rw[if_neg (λh=>h rfl),xn,up rfl,ur rfl]
def f05(k:Int)(d:Dc):Dc:=if k<0\/2<k then d.fail 1 else d
def C2(v:Val)(d:Dc):Val×Dc:=(v,if d.e=0 then d.fail (Ej v)else d)
def Ls(k:Int)(d:Dc):Val×Dc:=if d.e=0/\k=2 then bd Sj (λt=>C2 ⟨k,0,t⟩) d else bd pI (λn=>C2 ⟨k,n,[]⟩) d
def Z6:Dc->Val×Dc:=bd pI λk d=>Ls k (f05 k d)
def E0{α β:Type}{F:Dc->α×Dc}{enc:α->List UInt8}{ok:α->Prop}(h:Rt F enc ok)(G:α->Dc->β×Dc){x:α}(hx:ok x)(r:List UInt8):bd F G ⟨enc x++r,0⟩=G x ⟨r,0⟩:=by unfold bd;rw[h x hx]
def Yi(v:Val):List UInt8:=Wm v.kind++(if v.kind=2 then q1f v.text else Wm v.num)
def z0f{v:Val}(h:Ej v=0):(v.kind=2/\v.num=0/\v.text.length<=64)\/((v.kind=0\/v.kind=1)/\v.text=[]/\ -1099511627776<=v.num/\v.num<=1099511627776):=by
 obtain⟨k,n,t⟩:=v;unfold Ej Kv at h;simp only at h |-;by_cases h1:(k==0 || k==1)=true
 ·rw[if_pos h1]at h;have hk:k=0\/k=1:=by simpa using h1
  right;cases t with
  |cons c r=>simp at h
  |nil=>
   refine⟨hk,rfl,?_⟩;rcases hk with rfl|rfl
   ·simp at h;omega
   simp at h;omega
 rw[if_neg h1]at h;by_cases h2:(k==2)=true
 ·rw[if_pos h2]at h;have hk:k=2:=by simpa using h2
  left;by_cases h3:(n != 0)=true
  ·rw[if_pos h3]at h;cases h
  rw[if_neg h3]at h;subst hk;simp at h h3;exact⟨rfl,h3,by omega⟩
 rw[if_neg h2]at h;cases h
def z1v:Rt Z6 Yi (λv=>Ej v=0):=λv hv r=>by
 have hc:=z0f hv;have hk:i64 v.kind:=by unfold i64;rcases hc with⟨h,_⟩|⟨h,_⟩<;>omega
 have z1:¬(v.kind<0\/2<v.kind):=by rcases hc with⟨h,_⟩|⟨h,_⟩<;>omega
 have hf:∀r,C2 v ⟨r,0⟩=(v,⟨r,0⟩):=λr=>by unfold C2;rw[if_pos rfl,hv];rfl
 unfold Z6 Yi;rw[yL,E0 Tr _ hk,f05,if_neg z1,Ls];rcases hc with⟨h1,h2,h3⟩|⟨h1,h2,h3⟩
 ·have:(⟨v.kind,0,v.text⟩:Val)=v:=by rw[<-h2]
  rw[if_pos ⟨rfl,h1⟩,if_pos h1,E0 f0n _ h3,this,hf]
 have h5:v.kind≠2:=by omega
 have:(⟨v.kind,v.num,[]⟩:Val)=v:=by rw[<-h2]
 rw[if_neg (λh=>h5 h.2),if_neg h5,E0 Tr _ (show i64 v.num from⟨by omega,by omega⟩),this,hf]
section
structure Rf where
 time:Int
 source:Int
 seq:Int
deriving Inhabited,DecidableEq
structure Bnd where
 var:Int
 ref:Rf
deriving Inhabited,DecidableEq
structure Stt where
 scope:Int
 time:Int
deriving Inhabited,DecidableEq
structure Cfg where
 state:Int
 binds:List Bnd
 starts:List Stt
deriving Inhabited,DecidableEq
structure Eng where
 mark:Int
 waiting:List Ev
 runs:List Cfg
 held:List Ev
deriving Inhabited,DecidableEq
structure Pnt where
 seq:Int
 time:Int
deriving Inhabited,DecidableEq
structure Trk where
 next:Int
 beyond:List Int
 points:List Pnt
 mark:Int
deriving Inhabited,DecidableEq
structure Rdr where
 source:Int
 offset:Int
 trk:Trk
deriving Inhabited,DecidableEq
structure Kyd where
 query:Int
 key:Val
 eng:Eng
deriving Inhabited,DecidableEq
structure Opr where
 marks:List Int
 engines:List Kyd
deriving Inhabited,DecidableEq
structure Snp where
 number:Int
 readers:List Rdr
 operators:List Opr
deriving Inhabited,DecidableEq
abbrev DD (α:Type):=Dc->α×Dc
structure How where
 L:{α:Type}->DD α->DD (List α)
 V:DD Val
variable (h:How)
def How.ev:DD Ev:=bd pI λa=>bd pI λb=>bd pI λc=>bd pI λt=>bd (h.L h.V) λvs=>rtn ⟨a,b,c,t,vs⟩
def How.bnd:DD Bnd:=bd pI λv=>bd pI λa=>bd pI λb=>bd pI λc=>rtn ⟨v,⟨a,b,c⟩⟩
def How.stt:DD Stt:=bd pI λa=>bd pI λb=>rtn ⟨a,b⟩
def How.cfg:DD Cfg:=bd pI λa=>bd (h.L How.bnd) λb=>bd (h.L How.stt) λc=>rtn ⟨a,b,c⟩
def How.eng:DD Eng:=bd pI λa=>bd (h.L h.ev) λb=>bd (h.L h.cfg) λc=>bd (h.L h.ev) λd=>rtn ⟨a,b,c,d⟩
def How.pnt:DD Pnt:=bd pI λa=>bd pI λb=>rtn ⟨a,b⟩
def How.trk:DD Trk:=bd pI λa=>bd (h.L pI) λb=>bd (h.L How.pnt) λc=>bd pI λd=>rtn ⟨a,b,c,d⟩
def How.rdr:DD Rdr:=bd pI λa=>bd pI λb=>bd h.trk λc=>rtn ⟨a,b,c⟩
def How.kyd:DD Kyd:=bd pI λa=>bd h.V λb=>bd h.eng λc=>rtn ⟨a,b,c⟩
def How.opr:DD Opr:=bd (h.L pI) λa=>bd (h.L h.kyd) λb=>rtn ⟨a,b⟩
def How.snp:DD Snp:=bd pI λa=>bd (h.L h.rdr) λb=>bd (h.L h.opr) λc=>rtn ⟨a,b,c⟩
def pH:How:=⟨pL,Z6⟩
def Ss(e:Ev):List UInt8:=Wm e.source++(Wm e.seq++(Wm e.type++(Wm e.time++Rh Yi e.values)))
def Pt(b:Bnd):List UInt8:=Wm b.var++(Wm b.ref.time++(Wm b.ref.source++Wm b.ref.seq))
def Py(s:Stt):List UInt8:=Wm s.scope++Wm s.time
def Pn(c:Cfg):List UInt8:=Wm c.state++(Rh Pt c.binds++Rh Py c.starts)
def Pq(x:Eng):List UInt8:=Wm x.mark++(Rh Ss x.waiting++(Rh Pn x.runs++Rh Ss x.held))
def Is(p:Pnt):List UInt8:=Wm p.seq++Wm p.time
def Gj(t:Trk):List UInt8:=Wm t.next++(Rh Wm t.beyond++(Rh Is t.points++Wm t.mark))
def Ub(r:Rdr):List UInt8:=Wm r.source++(Wm r.offset++Gj r.trk)
def U1(k:Kyd):List UInt8:=Wm k.query++(Yi k.key++Pq k.eng)
def Ue(o:Opr):List UInt8:=Rh Wm o.marks++Rh U1 o.engines
def W2(s:Snp):List UInt8:=Wm s.number++(Rh Ub s.readers++Rh Ue s.operators)
def okL{α:Type}(ok:α->Prop)(l:List α):Prop:=l.length<=4096/\∀x∈l,ok x
def okV(v:Val):Prop:=Ej v=0
def x1f(e:Ev):Prop:=i64 e.source/\i64 e.seq/\i64 e.type/\i64 e.time/\okL okV e.values
def k0w(b:Bnd):Prop:=i64 b.var/\i64 b.ref.time/\i64 b.ref.source/\i64 b.ref.seq
def u0g(s:Stt):Prop:=i64 s.scope/\i64 s.time
def c06(c:Cfg):Prop:=i64 c.state/\okL k0w c.binds/\okL u0g c.starts
def d0f(x:Eng):Prop:=i64 x.mark/\okL x1f x.waiting/\okL c06 x.runs/\okL x1f x.held
def j0f(p:Pnt):Prop:=i64 p.seq/\i64 p.time
def d0a(t:Trk):Prop:=i64 t.next/\okL i64 t.beyond/\okL j0f t.points/\i64 t.mark
def f04(r:Rdr):Prop:=i64 r.source/\i64 r.offset/\d0a r.trk
def d0s(k:Kyd):Prop:=i64 k.query/\okV k.key/\d0f k.eng
def f08(o:Opr):Prop:=okL i64 o.marks/\okL d0s o.engines
def q1u(s:Snp):Prop:=i64 s.number/\okL f04 s.readers/\okL f08 s.operators
theorem Tw{α:Type}{F:DD α}{enc:α->List UInt8}{ok:α->Prop}(h:Rt F enc ok):Rt (pL F) (Rh enc) (okL ok):=Rt.list h
theorem k1b:Rt Z6 Yi okV:=z1v
theorem q17:Rt pH.ev Ss x1f:=λe ⟨h1,h2,h3,h4,h5⟩ r=>by simp only[How.ev,pH,Ss,yL];rw[E0 Tr _ h1,E0 Tr _ h2,E0 Tr _ h3,E0 Tr _ h4,E0 (Tw k1b) _ h5];rfl
theorem q12:Rt How.bnd Pt k0w:=λe ⟨h1,h2,h3,h4⟩ r=>by simp only[How.bnd,Pt,yL];rw[E0 Tr _ h1,E0 Tr _ h2,E0 Tr _ h3,E0 Tr _ h4];rfl
theorem z1m:Rt How.stt Py u0g:=λe ⟨h1,h2⟩ r=>by simp only[How.stt,Py,yL];rw[E0 Tr _ h1,E0 Tr _ h2];rfl
theorem w16:Rt How.pnt Is j0f:=λe ⟨h1,h2⟩ r=>by simp only[How.pnt,Is,yL];rw[E0 Tr _ h1,E0 Tr _ h2];rfl
theorem z18:Rt pH.cfg Pn c06:=λe ⟨h1,h2,h3⟩ r=>by simp only[How.cfg,pH,Pn,yL];rw[E0 Tr _ h1,E0 (Tw q12) _ h2,E0 (Tw z1m) _ h3];rfl
theorem w1j:Rt pH.eng Pq d0f:=λe ⟨h1,h2,h3,h4⟩ r=>by simp only[How.eng,Pq,yL];rw[E0 Tr _ h1,E0 (F:=pH.L pH.ev) (Tw q17) _ h2,E0 (F:=pH.L pH.cfg) (Tw z18) _ h3,E0 (F:=pH.L pH.ev) (Tw q17) _ h4];rfl
theorem y1x:Rt pH.trk Gj d0a:=λe ⟨h1,h2,h3,h4⟩ r=>by simp only[How.trk,pH,Gj,yL];rw[E0 Tr _ h1,E0 (Tw Tr) _ h2,E0 (Tw w16) _ h3,E0 Tr _ h4];rfl
theorem q1t:Rt pH.rdr Ub f04:=λe ⟨h1,h2,h3⟩ r=>by simp only[How.rdr,Ub,yL];rw[E0 Tr _ h1,E0 Tr _ h2,E0 y1x _ h3];rfl
theorem w1w:Rt pH.kyd U1 d0s:=λe ⟨h1,h2,h3⟩ r=>by simp only[How.kyd,U1,yL];rw[E0 Tr _ h1,E0 (F:=pH.V) k1b _ h2,E0 w1j _ h3];rfl
theorem q1h:Rt pH.opr Ue f08:=λe ⟨h1,h2⟩ r=>by simp only[How.opr,Ue,yL];rw[E0 (F:=pH.L pI) (Tw Tr) _ h1,E0 (F:=pH.L pH.kyd) (Tw w1w) _ h2];rfl
theorem w1a:Rt pH.snp W2 q1u:=λe ⟨h1,h2,h3⟩ r=>by simp only[How.snp,W2,yL];rw[E0 Tr _ h1,E0 (F:=pH.L pH.rdr) (Tw q1t) _ h2,E0 (F:=pH.L pH.opr) (Tw q1h) _ h3];rfl
end
def orE(a b:Int):Int:=if a≠0 then a else b
def We{α:Type}(f:α->Int):List α->Int
 |[]=>0
 |x::l=>orE (f x) (We f l)
def Rz{α:Type}(f:α->Int)(l:List α):Int:=if 4096<l.length then 5 else We f l
def noE{α:Type}(_:α):Int:=0
def Cu(e:Ev):Int:=Rz Ej e.values
def V9(c:Cfg):Int:=orE (Rz noE c.binds) (Rz noE c.starts)
def Vu(x:Eng):Int:=orE (Rz Cu x.waiting) (orE (Rz V9 x.runs) (Rz Cu x.held))
def g0v(t:Trk):Int:=orE (Rz noE t.beyond) (Rz noE t.points)
def Sc(r:Rdr):Int:=g0v r.trk
def Gs(k:Kyd):Int:=orE (Ej k.key) (Vu k.eng)
def Pf(o:Opr):Int:=orE (Rz noE o.marks) (Rz Gs o.engines)
def U2(s:Snp):Int:=orE (Rz Sc s.readers) (Rz Pf s.operators)
def T6{a b:Int}(h:orE a b=0):a=0/\b=0:=by
 unfold orE at h;split at h
 ·rename_i h1;exact absurd h h1
 rename_i h1;exact⟨by simpa using h1,h⟩
def Fi{α:Type}{f:α->Int}:∀ {l:List α},We f l=0->∀x∈l,f x=0
 |[],_,x,hx=>by simp at hx
 |y::l,h,x,hx=>by
  obtain⟨h1,h2⟩:=T6 h;rcases y_.1 hx with rfl|hx
  ·exact h1
  exact Fi h2 x hx
def Tp{α:Type}{f:α->Int}{l:List α}(h:Rz f l=0):l.length<=4096/\∀x∈l,f x=0:=by
 unfold Rz at h;split at h
 ·cases h
 exact⟨by omega,Fi h⟩
def iEv(e:Ev):Prop:=i64 e.source/\i64 e.seq/\i64 e.type/\i64 e.time
def v1j(c:Cfg):Prop:=i64 c.state/\(∀x∈c.binds,k0w x)/\∀x∈c.starts,u0g x
def k1f(x:Eng):Prop:=i64 x.mark/\(∀e∈x.waiting,iEv e)/\(∀c∈x.runs,v1j c)/\∀e∈x.held,iEv e
def u19(t:Trk):Prop:=i64 t.next/\(∀n∈t.beyond,i64 n)/\(∀p∈t.points,j0f p)/\i64 t.mark
def u1g(r:Rdr):Prop:=i64 r.source/\i64 r.offset/\u19 r.trk
def k1j(k:Kyd):Prop:=i64 k.query/\k1f k.eng
def u10(o:Opr):Prop:=(∀n∈o.marks,i64 n)/\∀k∈o.engines,k1j k
def x1h(s:Snp):Prop:=i64 s.number/\(∀r∈s.readers,u1g r)/\∀o∈s.operators,u10 o
def q1l{e:Ev}(h:Cu e=0)(hi:iEv e):x1f e:=⟨hi.1,hi.2.1,hi.2.2.1,hi.2.2.2,Tp h⟩
def q18{c:Cfg}(h:V9 c=0)(hi:v1j c):c06 c:=by obtain⟨h1,h2⟩:=T6 h;exact⟨hi.1,⟨(Tp h1).1,hi.2.1⟩,⟨(Tp h2).1,hi.2.2⟩⟩
def Al{α:Type}{f:α->Int}{i ok:α->Prop}(hf:∀x,f x=0->i x->ok x){l:List α}(h:Rz f l=0)(hi:∀x∈l,i x):okL ok l:=
 ⟨(Tp h).1,λx hx=>hf x ((Tp h).2 x hx) (hi x hx)⟩
def y1f{x:Eng}(h:Vu x=0)(hi:k1f x):d0f x:=by obtain⟨h1,h2⟩:=T6 h;obtain⟨h2,h3⟩:=T6 h2;exact⟨hi.1,Al (λ_=>q1l) h1 hi.2.1,Al (λ_=>q18) h2 hi.2.2.1,Al (λ_=>q1l) h3 hi.2.2.2⟩
def z15{t:Trk}(h:g0v t=0)(hi:u19 t):d0a t:=by obtain⟨h1,h2⟩:=T6 h;exact⟨hi.1,⟨(Tp h1).1,hi.2.1⟩,⟨(Tp h2).1,hi.2.2.1⟩,hi.2.2.2⟩
def z1j{r:Rdr}(h:Sc r=0)(hi:u1g r):f04 r:=⟨hi.1,hi.2.1,z15 h hi.2.2⟩
def w15{k:Kyd}(h:Gs k=0)(hi:k1j k):d0s k:=by obtain⟨h1,h2⟩:=T6 h;exact⟨hi.1,h1,y1f h2 hi.2⟩
def w1i{o:Opr}(h:Pf o=0)(hi:u10 o):f08 o:=by obtain⟨h1,h2⟩:=T6 h;exact⟨⟨(Tp h1).1,hi.1⟩,Al (λ_=>w15) h2 hi.2⟩
def w1f{s:Snp}(h:U2 s=0)(hi:x1h s):q1u s:=by obtain⟨h1,h2⟩:=T6 h;exact⟨hi.1,Al (λ_=>z1j) h1 hi.2.1,Al (λ_=>w1i) h2 hi.2.2⟩
def Fg(h:Nat)(c:UInt8):Nat:=(h ^^^ c.toNat) * 16777619 % 4294967296
def Yg(s:List UInt8):Nat:=s.foldl Fg 2166136261
def Jr(s:List UInt8):Yg s<4294967296:=by
 unfold Yg;rcases List.eq_nil_or_concat s with rfl|⟨t,c,rfl⟩
 ·rw[vk];omega
 rw[List.concat_eq_append,List.foldl_append,List.foldl_cons,vk,Fg];exact uM _ (by omega)
def Cl(c:Nat):List UInt8:=[UInt8.ofNat (c / 16777216),UInt8.ofNat (c / 65536),UInt8.ofNat (c / 256),UInt8.ofNat c]
def Fh(out:List UInt8):List UInt8:=out++Cl (Yg out)
def Qt(s:Snp):List UInt8×Int:=if U2 s≠0 then([],U2 s)else if 1048572<(W2 s).length then([],13)else(Fh (W2 s),0)
def Jq(s:List UInt8):Dc:=if 1048576<s.length then⟨[],13⟩else if s.length<4 then⟨[],26⟩else
 if Cl (Yg (s.take (s.length - 4)))≠s.drop (s.length - 4)then⟨[],26⟩else⟨s.take (s.length - 4),0⟩
def Uy:Snp:=⟨0,[],[]⟩
def Hx(F:DD Snp)(s:List UInt8):Snp×Int:=
 if(Jq s).e≠0 then(Uy,(Jq s).e)else
 if(F (Jq s)).2.e≠0 then(Uy,(F (Jq s)).2.e)else if(F (Jq s)).2.s≠[]then(Uy,3)else((F (Jq s)).1,0)
def Q5:List UInt8->Snp×Int:=Hx pH.snp
def w0g(out:List UInt8)(h:out.length<=1048572):Jq (Fh out)=⟨out,0⟩:=by
 have hl:(Fh out).length=out.length+4:=by simp[Fh,Cl]
 have ht:(Fh out).take out.length=out:=by simp[Fh]
 have hd:(Fh out).drop out.length=Cl (Yg out):=by simp[Fh]
 unfold Jq;rw[hl,if_neg (by omega),if_neg (by omega),Nat.add_sub_cancel,ht,hd,if_neg (λh=>h rfl)]
def decode_encode{s:Snp}(h:(Qt s).2=0)(hi:x1h s):Q5 (Qt s).1=(s,0):=by
 unfold Qt at h |-;by_cases h1:U2 s≠0
 ·rw[if_pos h1]at h;exact absurd h h1
 rw[if_neg h1]at h |-;by_cases h2:1048572<(W2 s).length
 ·rw[if_pos h2]at h;cases h
 rw[if_neg h2];have hk:=w1f (by simpa using h1) hi;have hr:=w1a s hk [];rw[xY]at hr;unfold Q5 Hx;simp only;rw[w0g _ (by omega),if_neg (λh=>h rfl),hr];simp
section
open Go.Proofs
attribute [simp] v1p k1l v1k k1i u12 k1x k1k T50 T52 v1f T58 T61 k1a T74 k1g u17 T48 T53 T56 T59 T23 j1b k16 k1u k13
@[simp] def avBnd (b:Bnd):AV:= .agg [.i b.var,.i b.ref.time,.i b.ref.source,.i b.ref.seq]
@[simp] def avRf (r:Rf):AV:= .agg [.i r.time,.i r.source,.i r.seq]
@[simp] def avStt (s:Stt):AV:= .agg [.i s.scope,.i s.time]
@[simp] def avCfg (c:Cfg):AV:= .agg [.i c.state,.list (c.binds.map avBnd),.list (c.starts.map avStt)]
@[simp] def avEng (x:Eng):AV:= .agg [.i x.mark,.list (x.waiting.map encE),.list (x.runs.map avCfg),.list (x.held.map encE)]
@[simp] def avPnt (p:Pnt):AV:= .agg [.i p.seq,.i p.time]
@[simp] def avTrk (t:Trk):AV:= .agg [.i t.next,.list (t.beyond.map encI),.list (t.points.map avPnt),.i t.mark]
@[simp] def avRdr (r:Rdr):AV:= .agg [.i r.source,.i r.offset,.i r.trk.next,.list (r.trk.beyond.map encI),.list (r.trk.points.map avPnt),.i r.trk.mark]
@[simp] def avKyd (k:Kyd):AV:= .agg [.i k.query,.i k.key.kind,.i k.key.num,.str k.key.text,.i k.eng.mark,.list (k.eng.waiting.map encE),.list (k.eng.runs.map avCfg),.list (k.eng.held.map encE)]
@[simp] def avOpr (o:Opr):AV:= .agg [.list (o.marks.map encI),.list (o.engines.map avKyd)]
@[simp] def avSnp (s:Snp):AV:= .agg [.i s.number,.list (s.readers.map avRdr),.list (s.operators.map avOpr)]
end
section
open Go.Proofs
structure Att where
 num:Int
 rds:List Rdr
 ops:List Opr
 hv:List Bool
deriving Inhabited,DecidableEq
structure Crd where
 next:Int
 atts:List Att
 dur:Int
deriving Inhabited,DecidableEq
def cAt(a:Att):List AV:=[.i a.num,.list (a.rds.map avRdr),.list (a.ops.map avOpr),.list (a.hv.map AV.bool)]
@[simp] def encAt (a:Att):AV:= .agg [.i a.num,.list (a.rds.map avRdr),.list (a.ops.map avOpr),.list (a.hv.map AV.bool)]
@[simp] def encCr (c:Crd):AV:= .agg [.i c.next,.list (c.atts.map encAt),.i c.dur]
def Rv:Opr:=⟨[],[]⟩
structure AOk (R W:Nat) (lo hi:Int) (pv:Option Att) (a:Att):Prop where
 lo:(match pv with|some b=>b.num|none=>lo)<a.num
 hi:a.num<hi
 rd:a.rds.length=R
 hvl:a.hv.length=W
 opl:a.ops.length=W
 emp:∀(j:Nat) (o:Opr),a.ops[j]?=some o->a.hv[j]?=some false->o=Rv
 ord:∀b,pv=some b->∀(j:Nat),a.hv[j]?=some true->b.hv[j]?=some true
def Xp(R W:Nat)(lo hi:Int):Option Att->List Att->Prop
 |_,[]=>True
 |pv,a::l=>AOk R W lo hi pv a/\Xp R W lo hi (some a) l
structure WfC (R W:Nat) (c:Crd):Prop where
 nx1:1<=c.next
 nx2:c.next<=1099511627776
 du1:0<=c.dur
 du2:c.dur<c.next
 len:c.atts.length<=256
 r1:1<=R
 r2:R<=8
 w1:1<=W
 w2:W<=8
 all:Xp R W c.dur c.next none c.atts
def U4(l:List Att):Nat->Option Att
 |0=>none
 |i+1=>l[i]?
def Xp.get{R W:Nat}{lo hi:Int}:∀ {l:List Att} {pv:Option Att} {i:Nat} {a:Att},Xp R W lo hi pv l->l[i]?=some a->AOk R W lo hi (match i with|0=>pv|i+1=>l[i]?) a
 |[],_,_,_,_,h=>by simp at h
 |b::l,pv,0,a,h,e=>by simp at e;subst e;exact h.1
 |b::l,pv,i+1,a,h,e=>by
  have e':l[i]?=some a:=by simpa using e
  have:=h.2.get e';cases i with
  |zero=>exact this
  |succ i=>simpa using this
def WfC.get{R W:Nat}{c:Crd}(h:WfC R W c){i:Nat}{a:Att}(e:c.atts[i]?=some a):AOk R W c.dur c.next (U4 c.atts i) a:=by have:=h.all.get e;cases i<;>exact this
def Xp.of{R W:Nat}{lo hi:Int}:∀ {l:List Att} {pv:Option Att},(∀i a,l[i]?=some a->AOk R W lo hi (match i with|0=>pv|i+1=>l[i]?) a)->Xp R W lo hi pv l
 |[],_,_=>trivial
 |b::l,pv,h=>⟨h 0 b rfl,Xp.of λi a e=>by
   have:=h (i+1) a (by simpa using e);cases i with
   |zero=>exact this
   |succ i=>simpa using this⟩
def WfC.of {R W:Nat} {c:Crd} (h1:1<=c.next) (h2:c.next<=1099511627776) (h3:0<=c.dur) (h4:c.dur<c.next) (h5:c.atts.length<=256) (h6:1<=R) (h7:R<=8) (h8:1<=W) (h9:W<=8)
  (h:∀i a,c.atts[i]?=some a->AOk R W c.dur c.next (U4 c.atts i) a):WfC R W c:=
 ⟨h1,h2,h3,h4,h5,h6,h7,h8,h9,Xp.of λi a e=>by
  have:=h i a e;cases i<;>exact this⟩
def Ex(c:Crd)(rs:List Rdr)(w:Nat):Crd:=⟨c.next+1,c.atts++[⟨c.next,rs,zH w Rv,zH w false⟩],c.dur⟩
def Pa(a:Att)(w:Nat)(o:Opr):Att:=⟨a.num,a.rds,a.ops.set w o,a.hv.set w true⟩
def w0b(c:Crd)(k w:Nat)(o:Opr):Crd:=match c.atts[k]? with
 |some a=>⟨c.next,c.atts.set k (Pa a w o),c.dur⟩
 |none=>c
def v0k(c:Crd)(n:Int):Crd:=⟨c.next,c.atts.drop 1,n⟩
def WfC.asc{R W:Nat}{c:Crd}(h:WfC R W c){i j:Nat}{a b:Att}(z8:i<j)(ha:c.atts[i]?=some a)(hb:c.atts[j]?=some b):a.num<b.num:=by
 induction j generalizing b with
 |zero=>omega
 |succ j ih=>
  have z1:=(h.get hb).lo;have hj:j<c.atts.length:=by have:=(zD.1 hb).1;omega
  simp only[U4,zG hj]at z1;by_cases e:i=j
  ·subst e;rw[zG hj]at ha;have:=Option.some.inj ha;subst this;exact z1
  have:=ih (by omega) (zG hj);omega
end
section
open Go.Proofs
def AOk.imp{R W:Nat}{lo hi hi':Int}{pv:Option Att}{a:Att}(h:AOk R W lo hi pv a)(hh:hi<=hi'):AOk R W lo hi' pv a:=
 ⟨h.lo,by have:=h.hi;omega,h.rd,h.hvl,h.opl,h.emp,h.ord⟩
def y0z{R W:Nat}{c:Crd}{rs:List Rdr}(h:WfC R W c)(hl:c.atts.length<256)(hn:c.next<1099511627776)(hr:rs.length=R):WfC R W (Ex c rs W):=by
 have d1:=h.nx1;have d2:=h.du1;have d3:=h.du2;refine WfC.of (by simp only[Ex];omega) (by simp only[Ex];omega) d2 (by simp only[Ex];omega) (by simp[Ex];omega) h.r1 h.r2 h.w1 h.w2 λi a e=>?_;simp only[Ex]at e |-;by_cases hi:i<c.atts.length
 ·rw[zK hi]at e;have hp:U4 (c.atts++[⟨c.next,rs,zH W Rv,zH W false⟩]) i=U4 c.atts i:=by
   cases i with
   |zero=>rfl
   |succ i=>simp only[U4];rw[zK (by omega)]
  rw[hp];exact(h.get e).imp (by omega)
 have z1:i=c.atts.length:=by have:=(zD.1 e).1;simp at this;omega
 subst z1;rw[zF (by omega),Nat.sub_self]at e;obtain rfl:=Option.some.inj e;refine⟨?_,by simp only;omega,hr,by simp,by simp,λj o h1 _=>?_,λb _ j hj=>?_⟩
 ·cases hm:c.atts.length with
  |zero=>exact d3
  |succ m=>simp only[U4];rw[zK (by omega),zG (by omega)];exact(h.get (zG (by omega:m<c.atts.length))).hi
 ·rw[xt]at h1;split at h1
  ·exact(Option.some.inj h1).symm
  cases h1
 simp only at hj;rw[xt]at hj;split at hj
 ·cases hj
 cases hj
def z1d{R W:Nat}{c:Crd}(h:WfC R W c){k w:Nat}{a:Att}{o:Opr}(ha:c.atts[k]?=some a)(hw:a.hv[w]?=some false)(hp:∀b,U4 c.atts k=some b->b.hv[w]?=some true):WfC R W (w0b c k w o):=by
 have z1:=(zD.1 ha).1;have e0:w0b c k w o=⟨c.next,c.atts.set k (Pa a w o),c.dur⟩:=by rw[w0b,ha]
 rw[e0];have hA:=h.get ha;have z8:=(zD.1 hw).1;refine WfC.of h.nx1 h.nx2 h.du1 h.du2 (by simp;exact h.len) h.r1 h.r2 h.w1 h.w2 λi b e=>?_;simp only at e |-;by_cases hik:i=k
 ·subst hik;rw[zJ z1]at e;obtain rfl:=Option.some.inj e;have za:U4 (c.atts.set i (Pa a w o)) i=U4 c.atts i:=by
   cases i with
   |zero=>rfl
   |succ i=>simp only[U4];rw[zI (by omega)]
  rw[za];refine⟨hA.lo,hA.hi,hA.rd,by simp[Pa,hA.hvl],by simp[Pa,hA.opl],λj o' h1 h2=>?_,λb hb j hj=>?_⟩
  ·simp only[Pa]at h1 h2;by_cases hj:j=w
   ·subst hj;rw[zJ z8]at h2;cases h2
   rw[zI (λh=>hj h.symm)]at h1 h2;exact hA.emp j o' h1 h2
  simp only[Pa]at hj;by_cases hjw:j=w
  ·subst hjw;exact hp b hb
  rw[zI (λh=>hjw h.symm)]at hj;exact hA.ord b hb j hj
 rw[zI (λh=>hik h.symm)]at e;have hB:=h.get e;cases i with
 |zero=>exact hB
 |succ i=>
  simp only[U4]at hB |-;by_cases hi:i=k
  ·subst hi;rw[zJ z1];rw[ha]at hB;refine⟨hB.lo,hB.hi,hB.rd,hB.hvl,hB.opl,hB.emp,λb' hb j hj=>?_⟩;obtain rfl:=Option.some.inj hb;simp only[Pa];by_cases hjw:j=w
   ·subst hjw;exact zJ z8
   rw[zI (λh=>hjw h.symm)];exact hB.ord a rfl j hj
  rw[zI (λh=>hi h.symm)];exact hB
def w1g{R W:Nat}{c:Crd}(h:WfC R W c){a:Att}(ha:c.atts[0]?=some a):WfC R W (v0k c a.num):=by
 have hA:=h.get ha;have h1:c.dur<a.num:=hA.lo;have h2:=hA.hi;have h3:=h.du1;refine WfC.of h.nx1 h.nx2 (by simp only[v0k];omega) h2 (by simp[v0k];have:=h.len;omega) h.r1 h.r2 h.w1 h.w2 λi b e=>?_;simp only[v0k,yX]at e |-;rw[wG]at e;have hB:=h.get e;cases i with
 |zero=>simp only[U4]at hB |-;refine⟨?_,hB.hi,hB.rd,hB.hvl,hB.opl,hB.emp,λb hb=>by cases hb⟩;have:=hB.lo;rw[ha]at this;exact this
 |succ i=>
  simp only[U4]at hB |-;rw[yX,wG];have hi:i+1<c.atts.length:=by have:=(zD.1 e).1;omega
  rw[zG hi]at hB |-;exact⟨hB.lo,hB.hi,hB.rd,hB.hvl,hB.opl,hB.emp,hB.ord⟩
def j0s(R W:Nat)(h1:1<=R)(h2:R<=8)(h3:1<=W)(h4:W<=8)(n:Int)(hn:0<=n)(z1:n<1099511627776):WfC R W ⟨n+1,[],n⟩:=
 ⟨by simp only;omega,by simp only;omega,hn,by simp only;omega,by simp,h1,h2,h3,h4,trivial⟩
end
section
open Go.Proofs
structure Bt where
 ep:Int
 chs:List Int
deriving Inhabited,DecidableEq
structure Snk where
 ep:Int
 com:List Int
 pend:List Bt
deriving Inhabited,DecidableEq
def bnA(n:Int):List AV:=[.agg [.i 0,.i n,.i 0,.i 0]]
def chA(n:Int):AV:= .agg [.i 1,.i 0,.list (bnA n)]
@[simp] def encBt (b:Bt):AV:= .agg [.i b.ep,.list (b.chs.map chA)]
@[simp] def encSk (s:Snk):AV:= .agg [.i s.ep,.list (s.com.map chA),.list (s.pend.map encBt)]
def Y2(s:Snk):Nat:=s.com.length+(s.pend.flatMap (·.chs)).length
structure WfS (s:Snk):Prop where
 e1:0<=s.ep
 e2:s.ep<=1099511627776
 len:s.pend.length<=256
 lo:∀b∈s.pend,s.ep<b.ep/\b.ep<=1099511627776/\1<=b.chs.length
 asc:s.pend.Pairwise λa b=>a.ep<b.ep
 size:Y2 s<=4096
def lbE(l:List Bt)(n:Int):Nat:=(l.takeWhile λb=>decide (b.ep<n)).length
def Xv:List Bt->Int->Int->List Bt
 |[],e,x=>[⟨e,[x]⟩]
 |[b],e,x=>if b.ep=e then [⟨e,b.chs++[x]⟩]else [b,⟨e,[x]⟩]
 |b::c::l,e,x=>b::Xv (c::l) e x
def Nu(s:Snk)(e:Int):Snk:=⟨e,s.com++(s.pend.take (lbE s.pend (e+1))).flatMap (·.chs),s.pend.drop (lbE s.pend (e+1))⟩
def Xx(s:Snk)(e:Int):Snk:=⟨s.ep,s.com,s.pend.take (lbE s.pend (e+1))⟩
def J0:∀ {l:List Bt} {e x:Int},(∀b∈l,b.ep<e)->Xv l e x=l++[⟨e,[x]⟩]
 |[],_,_,_=>rfl
 |[b],e,x,h=>by have:=h b (by simp);rw[Xv,if_neg (by omega)];rfl
 |b::c::l,e,x,h=>by rw[Xv,J0 (l:=c::l) (λy hy=>h y (xA _ hy))];rfl
def w0u:∀ {l:List Bt} {e x:Int} {ch:List Int},Xv (l++[⟨e,ch⟩]) e x=l++[⟨e,ch++[x]⟩]
 |[],e,x,ch=>by simp[Xv]
 |[b],e,x,ch=>by simp[Xv]
 |b::c::l,e,x,ch=>by have:=w0u (l:=c::l) (e:=e) (x:=x) (ch:=ch);simp only[xX,Xv]at this |-;rw[this]
def rng(a b:Int):List Int:=(List.range (b - a).toNat).map λ(i:Nat)=>a+(i:Int)
def On(a b:Int):(rng a b).length=(b - a).toNat:=by simp[rng]
def Cj{a b:Int}(h:b<=a):rng a b=[]:=by
 have:(b - a).toNat=0:=by omega
 simp[rng,this]
def Jt{a b:Int}(h:a<=b):rng a (b+1)=rng a b++[b]:=by
 have e:(b+1 - a).toNat=(b - a).toNat+1:=by omega
 rw[rng,rng,e,List.range_succ,List.map_append,List.map_cons,List.map_nil]
 congr 2
 omega
def w0q{a b c:Int}(h1:a<=b)(h2:b<=c):rng a b++rng b c=rng a c:=by
 obtain⟨k,rfl⟩:∃k:Nat,c=b+k:=⟨(c - b).toNat,by omega⟩
 clear h2;induction k with
 |zero=>rw[Cj (a:=b) (by omega)];simp
 |succ k ih=>rw[show b+((k+1:Nat):Int)=b+k+1 by omega,Jt (by omega),Jt (by omega),<-yL,ih]
def f00{a b:Int}{i:Nat}(h:i<(b - a).toNat):(rng a b)[i]?=some (a+i):=by rw[rng,zU,List.getElem?_range h];rfl
def seg(e a b:Int):List Bt:=if a<b then [⟨e,rng a b⟩]else []
def Ti:Int->Int->List Int->Int->List Bt
 |e,a,[],n=>seg e a n
 |e,a,v::vs,n=>seg e a v++Ti (e+1) v vs n
def Ki:Int->List Int->Int->Prop
 |a,[],n=>a<=n
 |a,v::vs,n=>a<=v/\Ki v vs n
def Ki.le:∀ {a:Int} {vs:List Int} {n:Int},Ki a vs n->a<=n
 |_,[],_,h=>h
 |_,v::vs,_,h=>by have:=h.2.le;have:=h.1;omega
def Ki.mem:∀ {a:Int} {vs:List Int} {n:Int},Ki a vs n->∀v∈vs,a<=v/\v<=n
 |_,[],_,_,v,hv=>by simp at hv
 |a,w::vs,n,h,v,hv=>by
  have h1:=h.1;have h2:=h.2.le;rcases y_.1 hv with rfl|hv
  ·exact⟨h1,h2⟩
  have:=h.2.mem v hv;omega
def Ki.emit:∀ {a:Int} {vs:List Int} {n:Int},Ki a vs n->Ki a vs (n+1)
 |_,[],_,h=>by have:_<=_:=h;show _<=_;omega
 |_,v::vs,_,h=>⟨h.1,h.2.emit⟩
def Ki.bar:∀ {a:Int} {vs:List Int} {n:Int},Ki a vs n->Ki a (vs++[n]) n
 |_,[],_,h=>⟨h,wI _⟩
 |_,v::vs,_,h=>⟨h.1,h.2.bar⟩
def Ja{e a b:Int}{x:Bt}(h:x∈seg e a b):x=⟨e,rng a b⟩/\a<b:=by
 unfold seg at h;split at h
 ·exact⟨xd.1 h,by assumption⟩
 simp at h
def I6:∀ {e a:Int} {vs:List Int} {n:Int} {x:Bt},x∈Ti e a vs n->e<=x.ep/\x.ep<=e+vs.length/\1<=x.chs.length
 |e,a,[],n,x,h=>by obtain⟨rfl,h1⟩:=Ja h;simp[On];omega
 |e,a,v::vs,n,x,h=>by
  rw[Ti]at h;rcases xu.1 h with h|h
  ·obtain⟨rfl,h1⟩:=Ja h;simp[On];omega
  have:=I6 h;simp only[yQ];omega
def Lo:∀(e a:Int) (vs:List Int) (n:Int),(Ti e a vs n).Pairwise λx y=>x.ep<y.ep
 |e,a,[],n=>by rw[Ti,seg];split<;>simp
 |e,a,v::vs,n=>by rw[Ti,List.pairwise_append];refine⟨by rw[seg];split<;>simp,Lo _ _ _ _,λx hx y hy=>?_⟩;obtain⟨rfl,_⟩:=Ja hx;have:=I6 hy;simp only;omega
def J2{e a b:Int}(h:a<=b):(seg e a b).flatMap (·.chs)=rng a b:=by
 unfold seg;split
 ·simp
 rw[Cj (by omega)];rfl
def Az:∀ {e a:Int} {vs:List Int} {n:Int},Ki a vs n->(Ti e a vs n).flatMap (·.chs)=rng a n
 |e,a,[],n,h=>J2 h
 |e,a,v::vs,n,h=>by rw[Ti,wm,J2 h.1,Az h.2,w0q h.1 h.2.le]
def Fb:∀(e a:Int) (vs:List Int) (n:Int),(Ti e a vs n).length<=vs.length+1
 |e,a,[],n=>by rw[Ti,seg];split<;>simp
 |e,a,v::vs,n=>by
  have:=Fb (e+1) v vs n;have h2:(seg e a v).length<=1:=by rw[seg];split<;>simp
  rw[Ti,List.length_append,yQ];omega
def V3:∀(l m:List Bt) (e x:Int),m≠[]->Xv (l++m) e x=l++Xv m e x
 |[],m,e,x,_=>rfl
 |[b],[],e,x,h=>absurd rfl h
 |[b],c::m,e,x,h=>rfl
 |b::c::l,m,e,x,h=>by have:=V3 (c::l) m e x h;simp only[xX,Xv]at this |-;rw[this]
def L9:∀ {e a:Int} {vs:List Int} {n:Int},Ki a vs n->Xv (Ti e a vs n) (e+vs.length) n=Ti e a vs (n+1)
 |e,a,[],n,h=>by
  have h':a<=n:=h;simp only[Ti,seg,wH];rw[if_pos (by omega:a<n+1),Jt h'];split
  ·simp[Xv]
  rw[Cj (by omega)];simp[Xv]
 |e,a,v::vs,n,h=>by
  have ih:=L9 (e:=e+1) h.2;have el:e+1+(vs.length:Int)=e+((v::vs).length:Nat):=by simp;omega
  rw[el]at ih;rw[Ti,Ti];by_cases hm:Ti (e+1) v vs n=[]
  ·rw[hm]at ih |-;rw[xY,<-ih];rw[J0 (l:=seg e a v)]
   ·rfl
   intro b hb;obtain⟨rfl,_⟩:=Ja hb;simp only[yQ];omega
  rw[V3 _ _ _ _ hm,ih]
def q1n(e a b:Int){m:Int}(h:e<m)(l:List Bt):lbE (seg e a b++l) m=(seg e a b).length+lbE l m:=by
 unfold seg lbE;split
 ·simp[xj,h];omega
 simp
def Bb{l:List Bt}{m:Int}(h:∀b∈l,m<=b.ep):lbE l m=0:=by
 unfold lbE;cases l with
 |nil=>rfl
 |cons b l=>rw[xj,if_neg (by have:=h b (by simp);simp;omega)];rfl
def c00{l:List Bt}{m:Int}(h:∀b∈l,b.ep<m):lbE l m=l.length:=by
 induction l with
 |nil=>rfl
 |cons b l ih=>have:=ih (λx hx=>h x (xA _ hx));unfold lbE at this |-;rw[xj,if_pos (by simpa using h b (by simp)),yQ,this,yQ]
def Ow(D c:Int)(vs:List Int)(n:Int):Snk:=⟨D,rng 0 c,Ti (D+1) c vs n⟩
def d09{D c:Int}{vs:List Int}{n:Int}(hD:0<=D)(z1:D+vs.length<=1000)(hv:vs.length<=200)(hc:0<=c)(h:Ki c vs n)(hn:n<=4096):WfS (Ow D c vs n):=by
 refine⟨hD,by simp only[Ow];omega,?_,λb hb=>?_,Lo _ _ _ _,?_⟩
 ·have:=Fb (D+1) c vs n;simp only[Ow];omega
 ·have:=I6 hb;simp only[Ow];omega
 have:=h.le;rw[Y2,Ow];simp only;rw[Az h,On,On];omega
def u09{D c:Int}{vs:List Int}{n:Int}(h:Ki c vs n):(⟨(Ow D c vs n).ep,(Ow D c vs n).com,Xv (Ow D c vs n).pend (D+1+vs.length) n⟩:Snk)=Ow D c vs (n+1):=by simp only[Ow];rw[L9 h]
def u04{D c v:Int}{vs:List Int}{n:Int}(hc:0<=c)(h:Ki c (v::vs) n):Nu (Ow D c (v::vs) n) (D+1)=Ow (D+1) v vs n:=by
 have e:lbE (Ti (D+1) c (v::vs) n) (D+1+1)=(seg (D+1) c v).length:=by rw[Ti,q1n _ _ _ (by omega),Bb (λb hb=>(I6 hb).1)];rfl
 simp only[Nu,Ow];rw[e,Ti,up,ur,J2 h.1,w0q hc h.1]
 ·rfl
 rfl
def k0y{D c:Int}{vs:List Int}{n:Int}:Xx (Ow D c vs n) D=Ow D c [] c:=by have e:lbE (Ti (D+1) c vs n) (D+1)=0:=Bb (λb hb=>(I6 hb).1);simp only[Xx,Ow];rw[e,List.take_zero,Ti,seg,if_neg (by omega)]
def Oe:Int->List Int->List Att
 |_,[]=>[]
 |e,v::vs=>⟨e,[⟨0,v,⟨0,[],[],0⟩⟩],[⟨[v],[]⟩],[true]⟩::Oe (e+1) vs
def Ot(D:Int)(vs:List Int):Crd:=⟨D+1+vs.length,Oe (D+1) vs,D⟩
def Yk:∀(e:Int) (vs:List Int),(Oe e vs).length=vs.length
 |_,[]=>rfl
 |e,v::vs=>by rw[Oe,yQ,yQ,Yk]
def G7:∀(e:Int) (vs:List Int) (n:Int),Oe e (vs++[n])=Oe e vs++[⟨e+vs.length,[⟨0,n,⟨0,[],[],0⟩⟩],[⟨[n],[]⟩],[true]⟩]
 |e,[],n=>by simp[Oe]
 |e,v::vs,n=>by rw[xX,Oe,Oe,G7];simp;omega
def Ii:∀ {e:Int} {vs:List Int} {i:Nat} {a:Att},(Oe e vs)[i]?=some a->∃v,a=⟨e+i,[⟨0,v,⟨0,[],[],0⟩⟩],[⟨[v],[]⟩],[true]⟩
 |_,[],i,a,h=>by simp[Oe]at h
 |e,v::vs,0,a,h=>by simp[Oe]at h;exact⟨v,by rw[<-h];simp⟩
 |e,v::vs,i+1,a,h=>by rw[Oe,List.getElem?_cons_succ]at h;obtain⟨w,rfl⟩:=Ii h;exact⟨w,by simp;omega⟩
def d0p{D:Int}{vs:List Int}(hD:0<=D)(h2:D+vs.length<=1000)(hv:vs.length<=200):WfC 1 1 (Ot D vs):=by
 refine WfC.of (by simp only[Ot];omega) (by simp only[Ot];omega) hD (by simp only[Ot];omega) (by rw[Ot];simp only;rw[Yk];omega) (by omega) (by omega) (by omega) (by omega) λi a e=>?_;simp only[Ot]at e |-;have hl:=(zD.1 e).1;rw[Yk]at hl;obtain⟨v,rfl⟩:=Ii e;refine⟨?_,by simp only;omega,rfl,rfl,rfl,λj o _ h2=>?_,λb hb j hj=>?_⟩
 ·cases i with
  |zero=>simp only[U4];omega
  |succ i=>
   simp only[U4];have hi:i<(Oe (D+1) vs).length:=by rw[Yk];omega
   rw[zG hi];obtain⟨w,hw⟩:=Ii (zG hi);simp only[hw];omega
 ·cases j<;>simp at h2
 cases i with
 |zero=>cases hb
 |succ i=>simp only[U4]at hb;obtain⟨w,rfl⟩:=Ii hb;exact hj
end
section
open Go.Proofs
def Qc{H:List AObj}{i:Nat}{x:AObj}(h:H[i]?=some x)(G:List AObj):(H++G)[i]?=some x:=by rw[zK (zD.1 h).1];exact h
def Qa{H:List AObj}{i j:Nat}{x:AObj}(z1:j≠i)(h:H[i]?=some x)(y:AObj):(H.set j y)[i]?=some x:=by rw[zI z1];exact h
def Qe{H:List AObj}{i:Nat}{x:AObj}(h:H[i]?=some x)(y:AObj):(H.set i y)[i]?=some y:=zJ (zD.1 h).1
def Fy{P:Program}[Env P]{f:Nat}{args:List AV}{H0:List AObj}{R:AV->List AObj->Prop}(h:∀H1,H1=H0->FC P f args H1 R):FC P f args H0 R:=h _ rfl
def Z1{H:List AObj}{q:Nat}{x:AObj}(h:H[q]?=some x):H.set q x=H:=by
 apply xk;intro i;by_cases hi:q=i
 ·subst hi;rw[h];exact zJ (zD.1 h).1
 rw[zI hi]
end
section
open Go.Proofs
attribute [simp] v1p k1l T32 T30 T93 T91 T94 k1y k1t T36 T33 T34 T78 q1b T76 T45 T22 T39 T41 T25 j1c k1r
def Ql{H:List AObj}{i:Nat}{x:AObj}(h:H[i]?=some x):i<H.length:=(zD.1 h).1
def HX(H H':List AObj):Prop:=∀(i:Nat) (o:AObj),H[i]?=some o->H'[i]?=some o
def HX.refl(H:List AObj):HX H H:=λ_ _ h=>h
def HX.trans{A B C:List AObj}(h:HX A B)(k:HX B C):HX A C:=λi o e=>k i o (h i o e)
def HX.app{A B:List AObj}(h:HX A B)(L:List AObj):HX A (B++L):=λi o e=>Qc (h i o e) L
def HX.len{A B:List AObj}(h:HX A B):A.length<=B.length:=by
 cases hA:A.length with
 |zero=>omega
 |succ n=>have:=Ql (h n A[n] (zG (by omega)));omega
def HX.set{A B:List AObj}(h:HX A B){i:Nat}(hi:A.length<=i)(o:AObj):HX A (B.set i o):=λj x e=>Qa (by have:=Ql e;omega) (h j x e) o
def cCr(c:Crd):List AV:=[.i c.next,.list (c.atts.map encAt),.i c.dur]
def Mq(n lo hi:Int):PC prog 56 [.i n,.i lo,.i hi] (λr=>r= .bool (decide (lo<=n) && decide (n<=hi))):=by refine pcB func56 results56 ntmps56 ?_;simp only[Qf];repeat(refine s_ ?_;simp)
def Ta(n lo hi:Int)(h1:lo<=n)(h2:n<=hi):PC prog 56 [.i n,.i lo,.i hi] (λr=>r= .bool true):=by have:=Mq n lo hi;simpa[h1,h2]using this
def d0g(l:List Opr)(h:l.length<=1000000):FR prog 61 [.list (l.map avOpr)] 58 2 (λr=>r=l.map avOpr):=by
 refine D3 tOk func61 rfl results61 rfl (by simp[ntmps61]) ?_;rw[ntmps61];simp only[Qf];repeat(refine s_ ?_;simp)
 refine apS T59 T58 ?_;simp;refine⟨by simp[Em]<;>omega,?_⟩;repeat(refine s_ ?_;simp)
def d01(l:List Bool)(h:l.length<=1000000):FR prog 62 [.list (l.map AV.bool)] 4 1 (λr=>r=l.map AV.bool):=by
 refine D3 tOk func62 rfl results62 rfl (by simp[ntmps62]) ?_;rw[ntmps62];simp only[Qf];repeat(refine s_ ?_;simp)
 refine apS T91 T4 ?_;simp;refine⟨⟨λy hy=>by obtain⟨b,_,rfl⟩:=xg.1 hy;exact⟨rfl,rfl⟩,by simp;omega⟩,?_⟩;repeat(refine s_ ?_;simp)
def f0k(l:List Att)(h:l.length<=1000000):FR prog 59 [.list (l.map encAt)] 93 4 (λr=>r=l.map encAt):=by
 refine D3 tOk func59 rfl results59 rfl (by simp[ntmps59]) ?_;rw[ntmps59];simp only[Qf];repeat(refine s_ ?_;simp)
 refine apS T30 T93 ?_;simp;refine⟨by simp[Em]<;>omega,?_⟩;repeat(refine s_ ?_;simp)
def f02(l:List Int)(h:l.length<=1000000):PC prog 35 [.list (l.map AV.i)] (λr=>r= .list (l.map AV.i)):=by
 refine pcB func35 results35 ntmps35 ?_;simp only[Qf];repeat(refine s_ ?_;simp)
 refine apS T23 T3 ?_;simp;refine⟨by simp[Em]<;>omega,?_⟩;repeat(refine s_ ?_;simp)
 rw[zY (by simp)]
def c0l(l:List Kyd)(h:l.length<=1000000):PC prog 36 [.list (l.map avKyd)] (λr=>r= .list (l.map avKyd)):=by
 refine pcB func36 results36 ntmps36 ?_;simp only[Qf];repeat(refine s_ ?_;simp)
 refine apS T56 v1f ?_;simp;refine⟨by simp[Em]<;>omega,?_⟩;repeat(refine s_ ?_;simp)
 rw[zY (by simp)]
def Xz(l:List Rdr)(h:l.length<=1000000):PC prog 33 [.list (l.map avRdr)] (λr=>r= .list (l.map avRdr)):=by
 refine pcB func33 results33 ntmps33 ?_;simp only[Qf];repeat(refine s_ ?_;simp)
 refine apS T53 T52 ?_;simp;refine⟨by simp[Em]<;>omega,?_⟩;repeat(refine s_ ?_;simp)
 rw[zY (by simp)]
def d03(l:List Opr)(h:l.length<=1000000):PC prog 61 [.list (l.map avOpr)] (λr=>r= .list (l.map avOpr)):=by
 refine pcB func61 results61 ntmps61 ?_;simp only[Qf];repeat(refine s_ ?_;simp)
 refine apS T59 T58 ?_;simp;refine⟨by simp[Em]<;>omega,?_⟩;repeat(refine s_ ?_;simp)
 rw[zY (by simp)]
def d0l(l:List Bool)(h:l.length<=1000000):PC prog 62 [.list (l.map AV.bool)] (λr=>r= .list (l.map AV.bool)):=by
 refine pcB func62 results62 ntmps62 ?_;simp only[Qf];repeat(refine s_ ?_;simp)
 refine apS T91 T4 ?_;simp;refine⟨⟨λy hy=>by obtain⟨b,_,rfl⟩:=xg.1 hy;exact⟨rfl,rfl⟩,by simp;omega⟩,?_⟩;repeat(refine s_ ?_;simp)
 rw[zY (by simp)]
def z06(a:Att)(h1:a.rds.length<=1000000)(h2:a.ops.length<=1000000)(h3:a.hv.length<=1000000):PC prog 38 [encAt a] (λr=>r=encAt a):=by
 refine pcB func38 results38 ntmps38 ?_;simp only[Qf];simp only[encAt];repeat(refine s_ ?_;simp)
 refine Qw tOk mixed [10,12,14] (.val 0 (.val 1 (.val 3 (.val 4 (.val 6 (.val 7 (.one 2 (.val 9 (.one 5 (.one 8 (.one 10 (.val 11 (.one 12 (.val 13 (.one 14 (.done)))))))))))))))) rfl (by kernel_rfl) ?_;simp;refine pcL (Xz a.rds h1) ?_;simp;refine pcL (d03 a.ops h2) ?_;simp;refine pcL (d0l a.hv h3) ?_;simp;repeat(refine s_ ?_;simp)
def g0g(a:Att)(h1:a.rds.length<=1000000)(h2:a.ops.length<=1000000)(h3:a.hv.length<=1000000)(H:List AObj):FC prog 38 [encAt a] H (λr H'=>HX H H'/\∃O B,r= .agg [.i a.num,.list (a.rds.map avRdr),.sl O 2 0 a.ops.length,.sl B 1 0 a.hv.length]/\H.length<=O/\O<B/\H'[O]?=some (.arr 58 2 (a.ops.map avOpr))/\H'[B]?=some (.arr 4 1 (a.hv.map AV.bool))):=by
 refine fcB func38 results38 ntmps38 ?_;simp only[Qf];simp only[encAt];repeat(refine s_ ?_;simp)
 refine Qw tOk mixed [10,12,14] (.val 0 (.val 1 (.val 3 (.val 4 (.val 6 (.val 7 (.one 2 (.val 9 (.one 5 (.one 8 (.one 10 (.val 11 (.one 12 (.val 13 (.one 14 (.done)))))))))))))))) rfl (by kernel_rfl) ?_;simp;refine pcL (Xz a.rds h1) ?_;simp;refine Tg rfl rfl (by simp) (d0g a.ops h2) rfl ?_;rintro _ rfl;simp;refine Tg rfl rfl (by simp) (d01 a.hv h3) rfl ?_;rintro _ rfl;simp;repeat(refine s_ ?_;simp)
 refine⟨(HX.refl H).app _,_,_,⟨rfl,rfl⟩,by omega,by omega,?_,?_⟩
 ·rw[zF (by omega)];simp
 rw[zF (by omega)];simp
def pvP:Option Att->AV
 |none=> .nilp
 |some b=> .iptr (cAt b)
def V1(c:Crd)(a:Att)(h:c.atts[0]?=some a):PC prog 90 [.iptr (cCr c)] (λr=>r=encAt a):=by
 refine pcB func90 results90 ntmps90 ?_;simp only[Qf];simp only[cCr];have hl:=(zD.1 h).1;have hg:(c.atts.map encAt)[0]?=some (encAt a):=by rw[zU,h];rfl
 have hh:∀k,(c.atts.map encAt)[0]'k=encAt a:=λk=>(List.getElem_eq_iff k).2 hg;repeat(refine s_ ?_;simp[hl,hg,hh])
end
section
open Go.Proofs
attribute [simp] v1k T74
def Ik(l:List Int)(hl:l.length<=1000000):PC prog 77 [.list (l.map chA)] (λr=>r= .i 0):=by
 refine pcB func77 results77 ntmps77 ?_;simp only[Qf];repeat(refine s_ ?_;simp)
 refine E9 l.length (λ_=>True) (λj=>[(5,.list (l.map chA)),(6,.i l.length),(7,.i j)]) (λ_=>[]) rfl (by simp) (by simp) (by simp) (by simp) trivial ?_;intro j hj _ ih;repeat(refine s_ ?_;simp)
 refine Qb rfl (λz8=>?_) (λza=>?_)
 ·have z1:j<l.length:=by simpa using z8
  have hw:=wz j (by omega);have hg:(l.map chA)[j]?=some (chA l[j]):=by simp[z1]
  have hh:∀q,(l.map chA)[j]'q=chA l[j]:=λq=>by simp
  generalize l[j]=x at *;simp only[chA]at hg hh
  repeat(refine s_ ?_;simp[z1,hg,hh])
  refine Qh rfl ?_;simp;repeat(refine s_ ?_;simp)
  refine Qh rfl ?_;simp;repeat(refine s_ ?_;simp[hw])
  refine Q8 _ (ih z1 trivial) rfl (by simp) ?_ (by simp) (by simp);simp
 repeat(refine s_ ?_;simp)
def Ho(l:List Bt):PC prog 29 [.list (l.map encBt)] (λr=>r= .fn (.func 55) [] [.iptr [.list (l.map encBt)]]):=by refine pcB func29 results29 ntmps29 ?_;simp only[Qf];repeat(refine s_ ?_;simp)
def Vr (bs:List Bt) (hl:bs.length<=1000000) (hc:∀b∈bs,b.chs.length<=1000000) (l:Nat) {zd:Nat} {sl':List (Nat×AV)} {ps:List Tmp} {asg body:Code} (zo:ps.length=1) (zp:(ps.all λp=>decide (p<zd))=true)
  (Inv:List Int->List AObj->Prop) (H0:List AObj)
  (hI:∀k H,Inv k H->H[l]?=some (.lp true none zd sl' ps asg body))
  (za:∀k H L,Inv k H->Inv k (H++L))
  (zb:∀pre x post H,bs.flatMap (·.chs)=pre++x::post->Inv pre H->H0.length<=H.length->AWP prog zd H.length asg (O7 (AWP prog zd H.length body (Gy l (λjm K2=>jm=none/\Inv (pre++[x]) (K2.set l (.lp true none zd sl' ps asg body))/\H.length<=K2.length))) (λ_ _=>False)) ⟨Ry sl' ps [chA x],H.set l .dead⟩)
  (h0:Inv [] H0):FC prog 55 [.yld l,.iptr [.list (bs.map encBt)]] H0 (λ_ H'=>Inv (bs.flatMap (·.chs)) H'/\H0.length<=H'.length):=by
 refine fcB func55 results55 ntmps55 ?_;simp only[Qf];repeat(refine s_ ?_;simp)
 refine Qk (Qg (sl':=[(0,.yld l),(1,.iptr [.list (bs.map encBt)]),(7,.list (bs.map encBt)),(8,.i bs.length),(9,.i (0:Nat))]) ?_ (by simp));refine Qp (P:=prog) (F:=λ(u:Nat×List AObj)=>⟨[(0,.yld l),(1,.iptr [.list (bs.map encBt)]),(7,.list (bs.map encBt)),(8,.i bs.length),(9,.i u.1)],u.2⟩)
  (λu=>u.1<=bs.length/\Inv ((bs.take u.1).flatMap (·.chs)) u.2/\H0.length<=u.2.length) (λu=>bs.length - u.1) ?_ (0,H0) ⟨yO _,h0,zR _⟩
 rintro⟨j,J⟩ ⟨hj,hv,hJ⟩ ih;simp only at hj hv hJ ih |-;repeat(refine s_ ?_;simp)
 refine Qb rfl (λzq=>?_) (λzr=>?_)
 ·have z8:j<bs.length:=by simpa using zq
  have hw:=wz j (by omega);have zx:=hc _ (yB z8);have zt:bs.flatMap (·.chs)=(bs.take j).flatMap (·.chs)++(bs[j].chs++(bs.drop (j+1)).flatMap (·.chs)):=by
   conv=>lhs;rw[<-yN j bs,yU z8]
   rw[wm,wt]
  have zu:(bs.take (j+1)).flatMap (·.chs)=(bs.take j).flatMap (·.chs)++bs[j].chs:=by rw[yI z8,wm];simp
  have zk:=λH'=>ih (j+1,H');simp only[zu]at zk;have hg:(bs.map encBt)[j]?=some (encBt bs[j]):=by simp[z8]
  have hh:∀q,(bs.map encBt)[j]'q=encBt bs[j]:=λq=>by simp
  generalize bs[j]=b at *
  generalize (bs.take j).flatMap (·.chs)=pre at *
  generalize (bs.drop (j+1)).flatMap (·.chs)=post at *
  repeat(refine s_ ?_;simp[z8,hg,hh])
  have ze:=za _ _ [AObj.vars [.i b.ep,.list (b.chs.map chA)]] hv;have zg:H0.length<=(J++[AObj.vars [.i b.ep,.list (b.chs.map chA)]]).length:=by simp;omega
  generalize J++[AObj.vars [.i b.ep,.list (b.chs.map chA)]]=J1 at *;refine Qk (Qg (sl':=[(0,.yld l),(1,.iptr [.list (bs.map encBt)]),(7,.list (bs.map encBt)),(8,.i bs.length),(9,.i j),(14,.list (b.chs.map chA)),(15,.i b.chs.length),(16,.i (0:Nat))]) ?_ (by simp))
  refine Qp (P:=prog) (F:=λ(u:Nat×List AObj)=>⟨[(0,.yld l),(1,.iptr [.list (bs.map encBt)]),(7,.list (bs.map encBt)),(8,.i bs.length),(9,.i j),(14,.list (b.chs.map chA)),(15,.i b.chs.length),(16,.i u.1)],u.2⟩)
   (λu=>u.1<=b.chs.length/\Inv (pre++b.chs.take u.1) u.2/\H0.length<=u.2.length) (λu=>b.chs.length - u.1) ?_ (0,J1) ⟨yO _,by simpa using ze,zg⟩
  clear ze zg hv hJ;clear J1;rintro⟨i,K⟩ ⟨hi,hv,hJ⟩ ih2;simp only at hi hv hJ ih2 |-;repeat(refine s_ ?_;simp)
  refine Qb rfl (λzh=>?_) (λzi=>?_)
  ·have z1:i<b.chs.length:=by simpa using zh
   have zv:=wz i (by omega);have zj:b.chs.take (i+1)=b.chs.take i++[b.chs[i]]:=yI z1;have zw:pre++(b.chs++post)=(pre++b.chs.take i)++b.chs[i]::(b.chs.drop (i+1)++post):=by have e:b.chs=b.chs.take i++b.chs[i]::b.chs.drop (i+1):=(yN i b.chs).symm.trans (by rw[yU z1]);rw[show pre++(b.chs++post)=pre++((b.chs.take i++b.chs[i]::b.chs.drop (i+1))++post) from by rw[<-e]];simp only[yL,xX]
   have zf:=λH'=>ih2 (i+1,H');simp only[zj]at zf;have zl:(b.chs.map chA)[i]?=some (chA b.chs[i]):=by simp[z1]
   have zm:∀q,(b.chs.map chA)[i]'q=chA b.chs[i]:=λq=>by simp
   generalize b.chs[i]=x at *;simp only[chA]at zl zm
   repeat(refine s_ ?_;simp[z1,zl,zm])
   have ze:=za _ _ [AObj.vars [.i 1,.i 0,.list (bnA x)]] hv;have zg:H0.length<=(K++[AObj.vars [.i 1,.i 0,.list (bnA x)]]).length:=by simp;omega
   generalize K++[AObj.vars [.i 1,.i 0,.list (bnA x)]]=K1 at *
   have zn:=zb _ x _ K1 (by rw[zt,zw]) ze zg;simp only[chA]at zn;refine Eu rfl rfl (q:=l) rfl rfl (hI _ _ ze) zo zp rfl (λjm K2=>jm=none/\Inv ((pre++b.chs.take i)++[x]) (K2.set l (.lp true none zd sl' ps asg body))/\K1.length<=K2.length) zn ?_;rintro jm K2 ⟨rfl,hK,zy⟩;simp;repeat(refine s_ ?_;simp)
   refine Qh rfl ?_;simp;repeat(refine s_ ?_;simp[zv])
   refine Qg (sl':=[(0,.yld l),(1,.iptr [.list (bs.map encBt)]),(7,.list (bs.map encBt)),(8,.i bs.length),(9,.i j),(14,.list (b.chs.map chA)),(15,.i b.chs.length),(16,.i (i+1:Nat))]) ?_ (by simp);exact zf _ ⟨by omega,by rw[<-yL];exact hK,by simp;omega⟩ (by omega)
  have zc:i=b.chs.length:=by simp at zi;omega
  subst zc;rw[yV]at hv;repeat(refine s_ ?_;simp[hw])
  refine Qg (sl':=[(0,.yld l),(1,.iptr [.list (bs.map encBt)]),(7,.list (bs.map encBt)),(8,.i bs.length),(9,.i (j+1:Nat))]) ?_ (by simp);exact zk _ ⟨by omega,hv,hJ⟩ (by omega)
 have zc:j=bs.length:=by simp at zr;omega
 subst zc;rw[yV]at hv;repeat(refine s_ ?_;simp)
 exact⟨hv,hJ⟩
def SzI(s:Snk)(pre:List Int)(K:List AObj):Prop:=∃n:Nat,n=s.com.length+pre.length/\K[1]?=some (AObj.vars [AV.i (n:Int)])
def P5(s:Snk)(h1:s.com.length<=1000000)(h2:s.pend.length<=1000000)(h3:∀b∈s.pend,b.chs.length<=1000000)(h4:Y2 s<=1000000):PC prog 79 [encSk s] (λr=>r= .i (Y2 s)):=by
 refine pcB func79 results79 ntmps79 ?_;simp only[Qf];simp only[encSk];repeat(refine s_ ?_;simp)
 refine pcL (Ho s.pend) ?_;simp;repeat(refine s_ ?_;simp)
 have za:s.com.length+(s.pend.flatMap (·.chs)).length<=1000000:=h4;refine Ez rfl (Rf:=λ_ H'=>H'[1]?=some (.vars [.i (Y2 s)])/\2<H'.length/\∃sl' zb a' b',H'[2]?=some (.lp true none 14 sl' zb a' b')) ?_ ?_
 ·simp;refine Fy λH1 z8=>?_;have f1:=congrArg (λh:List AObj=>h[1]?) z8;have f2:=congrArg (λh:List AObj=>h[2]?) z8;simp at f1 f2;clear z8;refine FC.mono (Vr s.pend h2 h3 2 (by rfl) (by rfl) (λpre K=>SzI s pre K/\K[2]? =H1[2]?) H1 (λ_ K h=>h.2.trans f2) (λ_ K L h=>⟨h.1.elim λn h=>⟨n,h.1,Qc h.2 L⟩,by rw[<-h.2,zK (Ql (h.2.trans f2))]⟩) ?_ ⟨⟨_,by simp,f1⟩,rfl⟩) ?_
  ·rintro pre x post K heq ⟨⟨n,hn,k1⟩,k2⟩ hK;have h8:=k2.trans f2;simp[Ry];have z1:=Qa (j:=2) (by decide) k1 .dead;have z2:=Qe h8 .dead;have zl:(K.set 2 .dead).length=K.length:=by simp
   clear k1 k2;generalize K.set 2 .dead=Z at *
   have zc:s.com.length+pre.length+1<=1000000:=by rw[heq]at za;simp at za;omega
   have hw:=wz n (by omega);repeat(refine s_ ?_;simp[z1,hw])
   have l1:=Ql z1;have l2:=Ql z2;exact⟨by simp[zW,z2],rfl,⟨⟨n+1,by simp[hn];omega,by simp[zW,l1]⟩,by rw[zJ (by simpa using l2),f2]⟩,by simp[zl]⟩
  rintro r H' ⟨⟨⟨n,hn,h1⟩,h2⟩,h3⟩;exact⟨by rw[h1,hn];rfl,Ql (h2.trans f2),_,_,_,_,h2.trans f2⟩
 rintro r H' ⟨h1,h2,sl',zb,a',b',h3⟩;refine⟨_,_,_,_,_,_,_,h3,?_⟩;simp;have y1:=Qa (j:=2) (by decide) h1 .dead;generalize H'.set 2 .dead=Y at *
 repeat(refine s_ ?_;simp[y1])
end
end Go.Abs
