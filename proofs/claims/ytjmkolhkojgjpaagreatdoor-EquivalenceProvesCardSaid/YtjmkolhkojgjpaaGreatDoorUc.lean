/- Part Uc of the proof: steps on the way to the last part. No condition. -/
import Derived.Test.YtjmkolhkojgjpaaGreatDoorUb
import Derived.Lib.MakeNoZero
import Derived.Carry
import Derived.Maps.Keyed
import Derived.Laws.MakeOwn
import Derived.Calls
import Derived.RunT
import Derived.Lone
import Derived.Shelf.Sort.Plain
import Derived.Shelf.Slices.In.SortNone
import Derived.Ground.SlgcProg
import Derived.Shelf.SlicesG.Cmp
import Derived.Test.YtjmkolhkojgjpaaGreatDoorProg
import Derived.Test.YtjmkolhkojgjpaaGreatDoorChecked
import Derived.KernelRfl
import Derived.Lib.LaidTab
import Derived.Lib.ItoaNum
import Derived.Test.YtjmkolhkojgjpaaGreatDoorUa
import Derived.Shelf.SlGeneric
import Derived.Ground.SlsfProg
import Derived.Shelf.SlSortCmp.WholeK
import Derived.Ground.Names2Prog
import Derived.Shelf.Slices.CompactI
import Derived.Shelf.Slices.Cells
set_option linter.all false
open Int renaming natCast_mul->tW
open List renaming replicate->yI,length_map->zY,eq_of_mem_replicate->wY,getElem?_replicate->vW,getElem?_eq_some_iff->zB,getElem?_map->zU,ext_getElem?->xN,getElem?_set_self->zL,getElem?_set_ne->zE,mem_of_mem_take->xU,getElem?_take->xR,mem_map->zO,size_toArray->xW,mem_append->zV,mem_singleton->zP,map_cons->xA,mem_map_of_mem->ur,all_eq_true->zW,mem_iff_getElem?->yK,getElem_of_mem->yY,mem_of_getElem?->zJ,getElem_mem->zK,getElem?_append_right->zH,getElem?_append_left->zF,mem_of_mem_drop->uy,getElem?_drop->xP,getElem?_eq_getElem->zI,eq_nil_of_length_eq_zero->wK,nodup_cons->uT,filter_cons->tG,length_eraseIdx->uA,getElem?_eraseIdx->uZ,drop_length->xH,eq_nil_or_concat->vD,concat_eq_append->vE,getLast?_append->tj,getLast?_singleton->uV,dropLast_concat->tk,foldl_cons->xS,length_cons->yV,take_of_length_le->zT,map_take->xK,map_drop->xL
open Array renaming size_append->wX,length_toList->wO,getElem?_append_left->y_,getElem?_eq_getElem->xF,ext->si,toList_push->tv,getElem?_toList->ww,getElem?_modify->wU,getElem?_eq_some_iff->yQ,getElem_toList->te,getElem?_setIfInBounds_ne->wW,getElem?_push->vI,mem_of_getElem?->ul,replicate->u4,getD_eq_getD_getElem?->wR,getElem?_append_right->u6,size_eq_zero_iff->vP
open Nat renaming add_mul->yO,le_refl->zQ,mul_le_mul_right->yF,mod_eq_of_lt->tM,zero_add->x_,zero_mul->uP,le_trans->yL,eq_zero_or_pos->vz,le_succ->ug,le_of_eq->sh,one_mul->tV,le_of_ble_eq_true->th
open Option renaming map_eq_some_iff->zS,map_some->wG,getD_some->wC,some_or->tH
open Bool renaming and_eq_true->zX
set_option maxHeartbeats 2000000
set_option linter.unusedSimpArgs false
set_option maxRecDepth 100000
open Go.Proofs.Tryz
namespace Go.Abs
open Go
section
open Go.RowKit
section
variable {P:Program} [Env P] {T:TT} {nt k:Nat} {S:AS} {ops:Array Oper} {o:Oper} {R:AS->Prop} {Q:Exit->AS->Prop}
def Aw {w:World} (t tn ty e:TypeId) (i:TypeInfo) (z:Value) (kk kn:IntKind) (ht:P.underlying t=some (.slice e)) (zb:P.underlying tn=some (.int kn)) (hi:P.info? e=some i) (hz:i.zero=some z)
  (n:Nat) (h0:0<n) (hs:0<i.size) (ze:(n:Int)<=9223372036854775807) (zf:n * i.bytes<=281474976710656) (zc:Builtin.nextslicecap n 0 * i.bytes<=281474976710656):
  (Builtin.append_ #[t,tn] ty #[.slice none 0 0,.int kk n]).run P w=
   .ok (.slice (some ⟨w.heap.size,0,none⟩) n (grownCap w n 0 e))
    (w.drew.alloc (.cells (Builtin.zeroCells z.cells n++Builtin.zeroCells z.cells (grownCap w n 0 e - n)) e)):=by
 have hn:n≠0:=by omega
 have hw:IntKind.i64.wrap (n:Int)=n:=by rw[IntKind.wrap_i64];omega
 have z6:¬(9223372036854775807<((0:Int)+(n:Int))):=by omega
 have z1:¬(9223372036854775807<(n:Int)):=by omega
 have z7:¬(281474976710656<Builtin.nextslicecap n 0 * i.bytes):=by omega
 have z8:¬(281474976710656<(n:Int) * (i.bytes:Int)):=by rw[<-tW];omega
 have za:¬((n:Int)<0):=by omega
 have zd:¬(n * i.size=0):=Nat.mul_ne_zero hn (by omega);simp[Builtin.append_,run_underlying ht,run_underlying zb,sizeOf,typeInfo,zeroValue,hi,hz,asInt,asIntOf,hw,hn,za,zd,z6,z1,z7,z8,Question.forced,run_firstCells_none,newRow,grownCap]
def A9 (hT:TOk P T) (hw:Qt ops S o=some true) {s x:Operand} {t tn e:TypeId} (ho:o.op= .call ⟨.builtin .append,#[s,x],#[t,tn]⟩) {it itn ei:TI} (ht:look T t=some it) (hit:it.desc= .slice e)
  (zh:look T tn=some itn) {kn:IntKind} (z8:itn.desc= .int kn) (he:look T e=some ei) (hz:ei.zero.cells.size=ei.size) (zp:0<ei.size) {n:Nat} (hs:rho S.sl s=some .nils) (hx:rho S.sl x=some (.int .i64 n))
  (h0:0<n) (hbound:n * ei.bytes<=140737488355328) (hlen:n<=9223372036854775807)
  (z:AV) (zb:z.cells=ei.zeros) (hd:Wq nt o=true)
  (hR:R (({ S with hp:=S.hp++[.arr e ei.size (yI n z)] }:AS).putD o.dst (.sl S.hp.length ei.size 0 n))):Wb P nt k true ops o S R:=λC a w K Q hst hK=>by
 unfold OpW;rw[if_pos (hst.wanted hw)];obtain⟨I,m,zi,za,zj,hE⟩:=hst;obtain⟨ti,zk,tz,ts,tb⟩:=hT.info he;have zc:=hT.und ht;rw[hit]at zc;have z1:=hT.und zh;rw[z8]at z1;have zl:=(Qr za hx).int_inv;have zm:=(Qr za hs).nils_inv;have z6:=Aw (P:=P) (w:=w) t tn o.type e ti ei.zero .i64 kn zc z1 zk tz n h0 (by omega) (by omega) (by rw[tb];omega)
  (growslice_fits (by omega) (by rw[tb];exact hbound))
 have c1:=grownCap_ge w n 0 e;have c2:grownCap w n 0 e<=maxLen:=grownCap_le_maxLen w _ 0 e (by unfold maxLen;omega);have zd:(Builtin.zeroCells ei.zero.cells n).size=n * ei.size:=by rw[size_zeroCells,hz]
 generalize ze:Builtin.zeroCells ei.zero.cells n++Builtin.zeroCells ei.zero.cells (grownCap w n 0 e - n)=cs at z6;have z7:cs.size=grownCap w n 0 e * ei.size:=by
  rw[<-ze];simp only[wX,size_zeroCells,hz,<-yO]
  congr 1;omega
 have zn:z.cells.length=ei.size:=by rw[zb,TI.zeros,zY,wO];exact hz
 have zo:Below w.heap.size w (w.drew.alloc (.cells cs e)):=(Below.refl _ _).drew.alloc (zQ _) _;obtain⟨g1,g2⟩:=zi.push zo (some w.heap.size) (λb e=>by injection e with e;subst e;simp) (.arr e ei.size (yI n z)) (λm' hf hm=> .inr ⟨w.heap.size,grownCap w n 0 e,cs,rfl,heap_alloc_new w.drew _,by simp;omega,c2,z7,
  λy hy=>by rw[wY hy];exact zn,λp y hp j v hv=>by
   rw[vW]at hp;split at hp
   ·rename_i zq;obtain rfl:=Option.some.inj hp;have hj:j<ei.size:=by have:=(zB.1 hv).1;omega
    have zf:p * ei.size+j<n * ei.size:=by have:(p+1) * ei.size<=n * ei.size:=yF _ (by omega);rw[yO]at this;omega
    have zg:j<ei.zero.cells.size:=by omega
    refine⟨ei.zero.cells[j],?_,?_⟩
    ·rw[<-ze,y_ (by rw[zd];exact zf),xF (by rw[zd];exact zf)];simp only[Builtin.zeroCells,Array.getElem_map,Array.getElem_range,Option.some.injEq];rw[hz,Nat.add_comm,Nat.add_mul_mod_self_right,tM hj];exact getElem!_pos ei.zero.cells j zg
    have:v=zeroCell ei.zero.cells[j]:=by
     rw[zb,TI.zeros,zU]at hv;have h5:ei.zero.cells.toList[j]?=some ei.zero.cells[j]:=by simp[zg]
     rw[h5]at hv;exact(Option.some.inj hv).symm
    rw[this];exact U2 _
   cases hp⟩)
 unfold wpA;have:(execOp a.eval o).run P w= .ok (.value (.slice (some ⟨w.heap.size,0,none⟩) n (grownCap w n 0 e))) (w.drew.alloc (.cells cs e)):=by simp[execOp,ho,resolve,invoke,builtin,zm,zl,z6]
 rw[this];refine hK _ _ _ hR (St.value za zj hE g1 g2 (by simp) (Qo hd) ?_) (λe=>by cases e);have:=VR.sl (w:=w.drew.alloc (.cells cs e)) (I:=I) (m:=upd m S.hp.length (some w.heap.size)) (n:=S.hp.length+1) S.hp.length ei.size 0 n (grownCap w n 0 e) w.heap.size e (by omega) (Q8 _ _ _)
  (by have:=heap_alloc_new w.drew (.cells cs e);simp only[World.size_drew]at this;simp only[World.shape?,this,z7,x_]) c1 (by omega)
 simpa using this
def Pu (hT:TOk P T) {wr:Bool} (hw:Qt ops S o=some true) {x:Operand} {t e:TypeId} (ho:o.op= .call ⟨.builtin .cap,#[x],#[t]⟩) {it:TI} (ht:look T t=some it) (hit:it.desc= .slice e)
  (hx:rho S.sl x=some .nils) (hd:Wq nt o=true) (hR:R (S.putD o.dst (.int .i64 (0:Nat)))):Wb P nt k wr ops o S R:=λC a w K Q hst hK=>by
 unfold OpW;rw[if_pos (hst.wanted hw)];obtain⟨I,m,z7,z1,hk,hE⟩:=hst;have z6:=hT.und ht;rw[hit]at z6;have z8:=(Qr z1 hx).nils_inv;unfold wpA;have:(execOp a.eval o).run P w= .ok (.value (goInt 0)) w:=by simp[execOp,ho,resolve,invoke,builtin,z8,q29 z6]
 rw[this];exact hK _ _ w hR (St.value z1 hk hE z7 (Fut.refl _ _ _ _) (zQ _) (Qo hd) (.pure (.int _ _))) (λ_=>Tl.refl w)
def f08{c:Code}{sl:List (Nat×AV)}{H:List AObj}(i k':Nat){e:TypeId}{cw:Nat}{xs:List AV}(hi:H[i]?=some (.arr e cw xs))(h:AWP P nt k c Q ⟨sl,H.set i (.arr e cw (xs.take k'))⟩):AWP P nt k c Q ⟨sl,H⟩:=λC a w hs=>by
 obtain⟨I,m,hw,z1,hk,hf⟩:=hs;have hlen:(H.set i (.arr e cw (xs.take k'))).length=H.length:=by simp
 rcases hw.obj i _ hi with⟨e1,e2⟩|⟨b,cap,vs,hb,hh,q1,q2,q3,q4,hr⟩
 ·subst e2;have:H.set i (.arr e cw (([]:List AV).take k'))=H:=by
   rw[List.take_nil];exact xN λj=>by
    by_cases hj:j=i
    ·subst hj;rw[hi,zL (zB.1 hi).1]
    rw[zE (λe=>hj e.symm)]
  rw[this]at h;exact h C a w ⟨I,m,hw,z1,hk,hf⟩
 obtain⟨g1,g2⟩:=hw.set (w':=w) (o':= .arr e cw (xs.take k')) hi rfl hb (World.grownBy.refl _ _) (λ_ h=>h) (λm' z7=> .inr ⟨b,cap,vs,rfl,hh,by simp;omega,q2,q3,λx hx=>q4 x (xU hx),λj x hx=>by
  rw[xR]at hx;split at hx
  ·exact hr j x hx
  cases hx⟩)
 refine h C a w ⟨I,m,g1,⟨z1.1,z1.2.1,λt x hx=>?_⟩,by rw[hlen];exact hk,hf⟩;obtain⟨v,hv,z6⟩:=z1.2.2 t x hx;exact⟨v,hv,by simpa using z6⟩
end
end
section
open Go.Sort
section
variable {W0:World} {I0:Nat->Prop} {w:World} {I:Nat->Prop} {m:Nat->Option Nat} {H:List AObj} {p b:Nat} {e:TypeId} {k:Nat} {xs:List AV} {F:Array Value}
def y2r {P:Program} [Env P] {f:FuncId} (hc:Tu P f) {len:Nat} (zb:xs.length=len) (ho:H[p]?=some (.arr e k xs)) (hF:RowOf k xs F)
  (Rx:List AV->Nat->Prop) (zc:∀ys n,Rx ys n->n<=len)
  (h:∀(b cap:Nat) (w:World),Holds id w b 0 F->b<w.heap.size->len<=cap->cap<=maxLen->Calls P f (#[.slice (some ⟨b,0,none⟩) len cap]) w λen w'=>∃(z6:List AV) (F':Array Value) (n z1:Nat),en= .returned (.slice (some ⟨b,0,none⟩) z1 cap)/\Rx z6 z1/\z6.length=xs.length/\RowOf k z6 F'/\w'=putRow id (Sort.ahead w n) b 0 F')
  (h0:xs=[]->Rx [] 0/\∀(w:World),Calls P f (#[.slice none 0 0]) w λen w'=>en= .returned (.slice none 0 0)/\w'=w):
  FC P f [.sl p k 0 len] H (λr H'=>∃z6 z1,r= .sl p k 0 z1/\Rx z6 z1/\H'=H.set p (.arr e k z6)):=by
 refine⟨hc,λW0 I0 w I m vals hE z7 zd hv=>?_⟩;rcases vals with⟨vals⟩
 match vals,zd with
 |[v],_=>
  have ze:=hv 0 v _ rfl rfl;rcases ze.sl_inv with⟨b,cap,t,hb,hn,zf,hle,hmax,z8⟩|⟨hb,hn,_,zg,z8⟩|⟨_,_,hlo,_,_⟩
  ·subst z8;obtain⟨g1,g2⟩:=x1w z7 ho hb hF;have:=h b cap w g1 g2 hle (by omega);simp only[uP];refine Calls.mono this ?_;rintro en w' ⟨z6,F',n,z1,rfl,hx,hl,zh,rfl⟩;obtain⟨k1,k2⟩:=w1u z7 ho hb hF hl zh n #[];rw[grow_empty]at k1 k2;refine⟨_,_,_,I,m,⟨z6,z1,rfl,hx,rfl⟩,rfl,k1,by simp,k2,?_⟩;have:=VR.sl (w:=putRow id (Sort.ahead w n) b 0 F') (I:=I) (m:=m) (n:=(H.set p (.arr e k z6)).length) p k 0 z1 cap b t (by simpa using hn) hb (k2.shape _ _ zf) (yL (zc _ _ hx) hle) (by omega);simpa using this
  ·subst z8;have za:xs=[]:=by cases xs with|nil=>rfl|cons=>simp at zb;omega
   obtain⟨r0,r1⟩:=h0 za;subst zg;refine Calls.mono (r1 w) ?_;rintro en w' ⟨rfl,rfl⟩;refine⟨_,_,H,I,m,⟨[],0,rfl,r0,?_⟩,rfl,z7,zQ _,.refl _ _ _ _,.slnone p k hn hb⟩;rw[<-za];exact(xN λi=>by
    by_cases hi:i=p
    ·subst hi;rw[ho,zL (zB.1 ho).1]
    rw[zE (λh=>hi h.symm)])
  omega
def g2e(zs:List Int):RowOf 1 (zs.map (AV.int .i64)) (zs.map (Value.int .i64)).toArray where
 size:=by simp
 width x hx:=by obtain⟨y,_,rfl⟩:=zO.1 hx;rfl
 cell i x hx j y hy:=by
  rw[zU]at hx;obtain⟨z,hz,rfl⟩:=zS.1 hx;obtain⟨hi,rfl⟩:=zB.1 hz;have hj:j=0:=by have:=(zB.1 hy).1;simp[AV.cells]at this;exact this
  subst hj;simp[AV.cells]at hy;subst hy;rw[Nat.mul_one,Nat.add_zero,getElem!_pos _ i (by simpa using hi)];simp[AV.val]
def Nn{w:World}{b:Nat}{zs:List Int}(h:Holds id w b 0 (zs.map (Value.int .i64)).toArray):Holds (Value.int .i64) w b 0 zs.toArray:=λj hj=>by
 have z1:j<zs.length:=by simpa using hj
 have:=h j (by simpa using z1);rw[getElem!_pos _ j (by simpa using z1)]at this;rw[getElem!_pos _ j (by simpa using z1)];simpa using this
def Zg(w:World)(b:Nat)(zs:List Int):putRow (Value.int .i64) w b 0 zs.toArray=putRow id w b 0 (zs.map (Value.int .i64)).toArray:=by
 unfold putRow;refine mapBlock_congr _ _ _ _ λc e fr _=>?_;unfold putCells;refine si (by simp) λi h1 h2=>?_;simp only[Array.getElem_mapIdx,xW,zY,id];split
 ·rename_i hh;have hi:i - 0<zs.length:=by omega
  rw[getElem!_pos _ (i - 0) (by simpa using hi),getElem!_pos _ (i - 0) (by simpa using hi)];simp
 rfl
end
end
section
open Go.RowKit
section
variable {P:Program} [Env P] {T:TT} {nt k:Nat} {S:AS} {ops:Array Oper} {o:Oper} {R:AS->Prop} {Q:Exit->AS->Prop}
end
end
section
open Go.RowKit Go.Maps
def AV.val_inj{x y:AV}{u:Value}(hx:x.val=some u)(hy:y.val=some u):x=y:=by
 cases x<;>simp[AV.val]at hx<;>subst hx<;>cases y<;>simp[AV.val]at hy
 ·rw[hy]
 ·rw[hy.1,hy.2]
 rw[hy]
def MpSz.push{es:Array MapEntry}{ck:Nat}{kvs:List (AV×AV)}(h:MpSz es ck kvs)(u v:Value)(p:AV×AV):MpSz (es.push ⟨u,v,ck⟩) (ck+1) (kvs++[p]):=by
 refine⟨by simp[h.size],λx hx=>?_,?_⟩
 ·simp only[tv,zV,zP]at hx;rcases hx with hx|rfl
  ·have:=h.born x hx;omega
  simp
 simp only[tv,List.map_append,xA,List.map_nil];refine List.nodup_append.2 ⟨h.nodup,by simp,λa ha b hb=>?_⟩;obtain⟨x,hx,rfl⟩:=zO.1 ha;have:=h.born x hx;simp at hb;omega
def MpSz.modify{es:Array MapEntry}{ck:Nat}{kvs:List (AV×AV)}(h:MpSz es ck kvs)(j:Nat)(u v:Value)(p:AV×AV):MpSz (es.modify j λe=>{ e with key:=u,val:=v }) ck (kvs.set j p):=by
 have hb:((es.modify j λe=>{ e with key:=u,val:=v }).toList.map (·.born))=es.toList.map (·.born):=by
  apply xN;intro i;simp only[zU,ww,wU];split
  ·subst_vars
   cases es[i]? <;>rfl
  rfl
 refine⟨by simp[h.size],λx hx=>?_,by rw[hb];exact h.nodup⟩;have h1:x.born∈es.toList.map (·.born):=by rw[<-hb];exact ur hx
 obtain⟨y,hy,e⟩:=zO.1 h1;have:=h.born y hy;omega
def AV.kv:AV->Option Value
 | .agg cs=>(Q5 (cs.map AV.val)).map λl=> .agg l.toArray
 | .bool b=>some (.bool b)
 | .int k n=>some (.int k n)
 | .str s=>some (.string ⟨s.toArray⟩)
 |_=>none
def Y3{α β:Type}{f:α->Option β}:∀ {l:List α} {r:List β},Q5 (l.map f)=some r->r.length=l.length/\∀(i:Nat) (x:α),l[i]?=some x->∃y,r[i]?=some y/\f x=some y
 |[],r,h=>by simp[Q5]at h;subst h;exact⟨rfl,λi x hx=>by simp at hx⟩
 |x::l,r,h=>by
  rw[xA]at h;cases hf:f x with
  |none=>simp[Q5,hf]at h
  |some y=>
   cases hr:Q5 (l.map f)with
   |none=>simp[Q5,hf,hr]at h
   |some r'=>
    simp[Q5,hf,hr]at h;subst h;obtain⟨h1,h2⟩:=Y3 hr;refine⟨by simp[h1],λi z hz=>?_⟩;cases i with
    |zero=>simp at hz;subst hz;exact⟨y,rfl,hf⟩
    |succ i=>exact h2 i z (by simpa using hz)
def PVR.kv{w:World}{I:Nat->Prop}{v u:Value}{x:AV}(h:PVR w I v x)(hx:x.kv=some u):v=u:=by
 cases x with
 |agg cs=>
  simp only[AV.kv]at hx;cases hr:Q5 (cs.map AV.val)with
  |none=>rw[hr]at hx;cases hx
  |some l=>
   rw[hr]at hx;simp only[wG,Option.some.injEq]at hx;subst hx;obtain⟨h1,h2⟩:=Y3 hr;cases h with
   |agg vs _ hl hall=>
    congr 1
    refine si (by simp[h1,hl]) λi g1 g2=>?_;have hc:i<cs.length:=by omega
    obtain⟨y,hy,hv⟩:=h2 i cs[i] (by simp[hc]);have:=(hall i vs[i] cs[i] (by simp[g1]) (by simp[hc])).val hv;rw[this];have e:l[i]?=some y:=hy;obtain⟨q1,q2⟩:=zB.1 e;simpa using q2.symm
 |bool b=>simp only[AV.kv,Option.some.injEq]at hx;subst hx;exact h.val rfl
 |int k n=>simp only[AV.kv,Option.some.injEq]at hx;subst hx;exact h.val rfl
 |str s=>simp only[AV.kv,Option.some.injEq]at hx;subst hx;exact h.val rfl
 |_=>simp[AV.kv]at hx
def AV.kv_inj{x y:AV}{u:Value}(hx:x.kv=some u)(hy:y.kv=some u):x=y:=by
 have z1:∀ {z:AV},(∀cs,z≠ .agg cs)->z.kv=z.val:=λ{z} hz=>by cases z<;>first|rfl|exact absurd rfl (hz _)
 have z6:∀ {z:AV} {cs:List AV},z.val=some u->(AV.agg cs).kv=some u->False:=λ{z cs} h1 h2=>by simp only[AV.kv]at h2;obtain⟨l,_,rfl⟩:=zS.1 h2;cases z<;>simp[AV.val]at h1
 by_cases h1:∃cs,x= .agg cs
 ·obtain⟨cs,rfl⟩:=h1;by_cases h2:∃ds,y= .agg ds
  ·obtain⟨ds,rfl⟩:=h2;simp only[AV.kv]at hx hy;obtain⟨l,e1,e2⟩:=zS.1 hx;obtain⟨r,e3,e4⟩:=zS.1 hy;have e5:l=r:=by rw[<-e4]at e2;simpa using e2
   subst e5;obtain⟨l1,f1⟩:=Y3 e1;obtain⟨l2,f2⟩:=Y3 e3
   congr 1
   refine List.ext_getElem (by omega) λi g1 g2=>?_;obtain⟨y1,a1,b1⟩:=f1 i cs[i] (by simp[g1]);obtain⟨y2,a2,b2⟩:=f2 i ds[i] (by simp[g2]);rw[a1]at a2;cases a2;exact AV.val_inj b1 b2
  rw[z1 (λcs e=>h2 ⟨cs,e⟩)]at hy;exact(z6 hy hx).elim
 rw[z1 (λcs e=>h1 ⟨cs,e⟩)]at hx;by_cases h2:∃ds,y= .agg ds
 ·obtain⟨ds,rfl⟩:=h2;exact(z6 hx hy).elim
 rw[z1 (λcs e=>h2 ⟨cs,e⟩)]at hy;exact AV.val_inj hx hy
def AV.kv_pure{x:AV}{u:Value}(h:x.kv=some u):x.pure=true:=by
 cases x with
 |agg cs=>simp only[AV.kv]at h;obtain⟨l,e1,_⟩:=zS.1 h;obtain⟨_,f1⟩:=Y3 e1;unfold AV.pure;simp only[List.all_subtype,List.unattach_attach,zW];intro z hz;obtain⟨i,hi⟩:=yK.1 hz;obtain⟨y,_,hy⟩:=f1 i z hi;cases z<;>simp[AV.val]at hy<;>simp[AV.pure]
 |_=>first|(simp[AV.pure];done)|(simp[AV.kv]at h)
def isKey(P:Program)(k:TypeId)(x:AV):Prop:=∃u l,x.kv=some u/\keyOf P k u=some l
section
variable {P:Program} [Env P] {T:TT} {nt k:Nat} {S:AS} {ops:Array Oper} {o:Oper} {R:AS->Prop} {Q:Exit->AS->Prop}
def W7 {wr:Bool} (hw:Qt ops S o=some true) (hd:Wq nt o=true) {t:TypeId} (ho:o.op= .makeMap t none)
  (hR:R (({ S with hp:=S.hp++[.mp []] }:AS).putD o.dst (.mref S.hp.length))):Wb P nt k wr ops o S R:=λC a w K Q hst hK=>by
 unfold OpW;rw[if_pos (hst.wanted hw)];obtain⟨I,m,z7,z8,za,hE⟩:=hst;have z1:(execOp a.eval o).run P w= .ok (.value (.map (some w.heap.size))) (w.alloc (.map #[] 0)):=by have h0:=run_makeMap (P:=P) t w;simp[execOp,ho,h0]
 have z6:Below w.heap.size w (w.alloc (.map #[] 0)):=(Below.refl _ _).alloc (zQ _) _;have hh:(w.alloc (.map #[] 0)).heap[w.heap.size]?=some (.map #[] 0):=heap_alloc_new w _;obtain⟨g1,g2⟩:=z7.push z6 (some w.heap.size) (λb e=>by injection e with e;subst e;exact⟨zQ _,(yQ.1 hh).1⟩) (.mp []) (λm' hf hm=>⟨w.heap.size,#[],0,rfl,hh,⟨rfl,by simp,by simp⟩,λi e p he _=>by simp at he⟩);unfold wpA;rw[z1];refine hK _ _ _ hR (St.value z8 za hE g1 g2 (by simp) (Qo hd) (.mref _ _ (by simp) (Q8 _ _ _))) (λ_=>Tl.of_below z6)
def Ob {w:World} {I:Nat->Prop} {es:Array MapEntry} {kvs:List (AV×AV)} {kt:TypeId} (K:Keyed P kt) (hl:es.size=kvs.length)
  (z7:∀(i:Nat) (e:MapEntry) (p:AV×AV),es[i]?=some e->kvs[i]?=some p->PVR w I e.key p.1) {kx:AV} {u:Value} {lk:Lit} (hu:kx.kv=some u) (hk:keyOf P kt u=some lk) (zb:∀p∈kvs,isKey P kt p.1):
  ((Instr.findKey kt u es.toList).run P w= .ok none w/\∀p∈kvs,p.1≠kx)\/
  ∃j e p,(Instr.findKey kt u es.toList).run P w= .ok (some (j,e.val)) w/\es[j]?=some e/\kvs[j]?=some p/\p.1=kx/\e.key=u:=by
 have z1:∀(i:Nat) (e:MapEntry),es[i]?=some e->∃p,kvs[i]?=some p:=λi e he=>by have hi:i<es.size:=(yQ.1 he).1;exact⟨kvs[i]'(by omega),by simp⟩
 rcases K.find w hk es.toList (λe he=>by
  obtain⟨i,hi,rfl⟩:=yY he;have z8:i<es.size:=by simpa using hi
  have z6:es[i]?=some es[i]:=by simp[z8]
  obtain⟨p,hp⟩:=z1 i _ z6;obtain⟨v,l,hv,hl'⟩:=zb p (zJ hp);have:=(z7 i _ p z6 hp).kv hv;refine⟨l,?_⟩;simp only[te];rw[this];exact hl')with⟨h1,h2⟩|⟨j,e,h1,h2,h3⟩
 ·refine .inl ⟨h1,λp hp zc=>?_⟩;obtain⟨i,hi,rfl⟩:=yY hp;have z8:i<es.size:=by omega
  have z6:es[i]?=some es[i]:=by simp[z8]
  have:=(z7 i _ kvs[i] z6 (by simp)).kv (by rw[zc];exact hu);exact h2 es[i] (by rw[<-te];exact zK _) this
 have za:es[j]?=some e:=by rw[<-ww];exact h2
 obtain⟨p,hp⟩:=z1 j e za;obtain⟨v,l,hv,_⟩:=zb p (zJ hp);have h4:=(z7 j e p za hp).kv hv;refine .inr ⟨j,e,p,h1,za,hp,?_,h3⟩;exact AV.kv_inj hv (by rw[hu,<-h4,h3])
def Gq (hT:TOk P T) {wr:Bool} (hw:Qt ops S o=some true) (hd:Wq nt o=true) {t kt et:TypeId} {x ix:Operand} (ho:o.op= .lookup t x ix false) {it ei:TI} (ht:look T t=some it) (hit:it.desc= .map kt et) (he:look T et=some ei)
  (K:Keyed P kt) {id:Nat} (hx:rho S.sl x=some (.mref id)) {kx:AV} (zd:rho S.sl ix=some kx) {kvs:List (AV×AV)} (ze:S.hp[id]?=some (.mp kvs)) (zf:isKey P kt kx) (zg:∀p∈kvs,isKey P kt p.1) {z:AV} (hz:z.val=some ei.zero)
  (zh:∀(j:Nat) (p:AV×AV),kvs[j]?=some p->p.1=kx->R (S.putD o.dst p.2)) (zi:(∀p∈kvs,p.1≠kx)->R (S.putD o.dst z)):Wb P nt k wr ops o S R:=λC a w K' Q hst hK=>by
 unfold OpW;rw[if_pos (hst.wanted hw)];obtain⟨I,m,z7,z6,hk,hE⟩:=hst;have z8:=hT.und ht;rw[hit]at z8;obtain⟨b,hb,_,zb⟩:=(Qr z6 hx).mref_inv;obtain⟨u,lk,hu,za⟩:=zf;have zj:kx.pure=true:=AV.kv_pure hu;have z1:=((Qr z6 zd).toPure zj).kv hu;obtain⟨b',es,ck,zc,hh,zk,hr⟩:=z7.obj id _ ze;have hl:=zk.size;obtain rfl:b=b':=by rw[hb]at zc;exact Option.some.inj zc
 have zl:=hT.zero he w;unfold wpA;rcases Ob K hl (λi e p a b=>(hr i e p a b).1) hu za zg with⟨h1,h2⟩|⟨j,e,p,h1,h2,h3,h4,h5⟩
 ·have:(execOp a.eval o).run P w= .ok (.value ei.zero) w:=by simp[execOp,ho,zb,z1,Instr.lookup,run_underlying z8,MapKept.run_getObj_map hh,K.check w _ za,h1,zl,Result.andThen]
  rw[this];refine hK _ _ w (zi h2) (St.value z6 hk hE z7 (Fut.refl _ _ _ _) (zQ _) (Qo hd) (.pure ?_)) (λ_=>Tl.refl w);cases z<;>simp[AV.val]at hz<;>rw[<-hz]
  ·exact .bool _
  ·exact .int _ _
  exact .str _
 have:(execOp a.eval o).run P w= .ok (.value e.val) w:=by simp[execOp,ho,zb,z1,Instr.lookup,run_underlying z8,MapKept.run_getObj_map hh,K.check w _ za,h1,Result.andThen]
 rw[this];exact hK _ _ w (zh j p h3 h4) (St.value z6 hk hE z7 (Fut.refl _ _ _ _) (zQ _) (Qo hd) (.pure (hr j e p h2 h3).2)) (λ_=>Tl.refl w)
def Ep (hT:TOk P T) (hw:Qt ops S o=some true) (hd:Wq nt o=true) {t kt et:TypeId} {x ix y:Operand} (ho:o.op= .mapUpdate t x ix y) {it:TI} (ht:look T t=some it) (hit:it.desc= .map kt et)
  (K:Keyed P kt) {id:Nat} (hx:rho S.sl x=some (.mref id)) {kx:AV} (zm:rho S.sl ix=some kx) {vy:AV} (hy:rho S.sl y=some vy) (zn:vy.pure=true) {kvs:List (AV×AV)} (zf:S.hp[id]?=some (.mp kvs)) (zo:isKey P kt kx) (zp:∀p∈kvs,isKey P kt p.1)
  (zq:∀(j:Nat) (p:AV×AV),kvs[j]?=some p->p.1=kx->R (({ S with hp:=S.hp.set id (.mp (kvs.set j (kx,vy))) }:AS).putD o.dst (.tup [])))
  (zr:(∀p∈kvs,p.1≠kx)->R (({ S with hp:=S.hp.set id (.mp (kvs++[(kx,vy)])) }:AS).putD o.dst (.tup []))):Wb P nt k true ops o S R:=λC a w K' Q hst hK=>by
 unfold OpW;rw[if_pos (hst.wanted hw)];obtain⟨I,m,zg,zc,hk,hE⟩:=hst;have zh:=hT.und ht;rw[hit]at zh;obtain⟨b,hb,_,zk⟩:=(Qr zc hx).mref_inv;obtain⟨u,lk,hu,ze⟩:=zo;have zt:kx.pure=true:=AV.kv_pure hu;have zd:=(Qr zc zm).toPure zt;have zb:=zd.kv hu;have z7:PVR w I u kx:=by rw[<-zb];exact zd
 have hyp:=(Qr zc hy).toPure zn;obtain⟨b',es,ck,zl,hh,zi,hr⟩:=zg.obj id _ zf;have hl:=zi.size;obtain rfl:b=b':=by rw[hb]at zl;exact Option.some.inj zl
 have z1:w.shape? b=none:=by simp[World.shape?,hh]
 have z8:∀o':Obj,w.grownBy { w with heap:=w.heap.setIfInBounds b o' } (some b):=λo'=>⟨rfl,rfl,rfl,by simp,λi _ hi=>by
  simp only[];rw[wW (λe=>hi (by rw[e]))]⟩
 have za:∀o':Obj,({ w with heap:=w.heap.setIfInBounds b o' }:World).heap[b]?=some o':=λo'=>by have:b<w.heap.size:=(yQ.1 hh).1;simp[this]
 unfold wpA;rcases Ob K hl (λi e p a b=>(hr i e p a b).1) hu ze zp with⟨h1,h2⟩|⟨j,e,p,h1,h2,h3,h4,h5⟩
 ·have:(execOp a.eval o).run P w= .ok .skip { w with heap:=w.heap.setIfInBounds b (.map (es.push ⟨u,a.eval y,ck⟩) (ck+1)) }:=by simp[execOp,ho,zk,zb,Instr.mapUpdate,run_underlying zh,MapKept.run_getObj_map hh,K.check w _ ze,h1,MapKept.run_setObj_map _ hh,Result.andThen]
  rw[this];obtain⟨g1,g2⟩:=zg.set (o':= .mp (kvs++[(kx,vy)])) zf rfl hb (z8 (.map (es.push ⟨u,a.eval y,ck⟩) (ck+1))) (λs hs=>by rw[z1]at hs;cases hs) (λm' hf=>⟨b,_,_,rfl,za _,zi.push _ _ _,λi e' p' he z6=>by
   rw[vI]at he;split at he
   ·rename_i hi;cases he;rw[zH (by omega)]at z6;have:i - kvs.length=0:=by omega
    rw[this]at z6;cases z6;exact⟨z7.mono hf.ext,hyp.mono hf.ext⟩
   rename_i hi;have zu:i<es.size:=(yQ.1 he).1;rw[zF (by omega)]at z6;have:=hr i e' p' he z6;exact⟨this.1.mono hf.ext,this.2.mono hf.ext⟩⟩)
  exact hK _ _ _ (zr h2) (St.value zc hk hE g1 g2 (by simp) (Qo hd) (Tv _ _ _ _)) (λe=>by cases e)
 have:(execOp a.eval o).run P w= .ok .skip { w with heap:=w.heap.setIfInBounds b (.map (es.modify j λe=>{ e with key:=u,val:=a.eval y }) ck) }:=by have zj:=K.stays w ze;simp[execOp,ho,zk,zb,Instr.mapUpdate,run_underlying zh,MapKept.run_getObj_map hh,K.check w _ ze,h1,h2,h5,zj,MapKept.run_setObj_map _ hh,Result.andThen]
 rw[this];obtain⟨g1,g2⟩:=zg.set (o':= .mp (kvs.set j (kx,vy))) zf rfl hb (z8 (.map (es.modify j λe=>{ e with key:=u,val:=a.eval y }) ck)) (λs hs=>by rw[z1]at hs;cases hs) (λm' hf=>⟨b,_,_,rfl,za _,zi.modify _ _ _ _,λi e' p' he z6=>by
  rw[wU]at he;by_cases hij:j=i
  ·subst hij;rw[if_pos rfl,h2]at he;rw[zL (zB.1 h3).1]at z6;cases he;cases z6;exact⟨z7.mono hf.ext,hyp.mono hf.ext⟩
  rw[if_neg hij]at he;rw[zE hij]at z6;have:=hr i e' p' he z6;exact⟨this.1.mono hf.ext,this.2.mono hf.ext⟩⟩)
 exact hK _ _ _ (zq j p h3 h4) (St.value zc hk hE g1 g2 (by simp) (Qo hd) (Tv _ _ _ _)) (λe=>by cases e)
def O3 (hT:TOk P T) (hw:Qt ops S o=some true) (hd:Wq nt o=true) {t kt et:TypeId} {x ix y:Operand} (ho:o.op= .insert t x ix y) {it:TI} (ht:look T t=some it) (hit:it.desc= .map kt et)
  (K:Keyed P kt) {id:Nat} (hx:rho S.sl x=some (.mref id)) {kx:AV} (zm:rho S.sl ix=some kx) {vy:AV} (hy:rho S.sl y=some vy) (zn:vy.pure=true) {kvs:List (AV×AV)} (zf:S.hp[id]?=some (.mp kvs)) (zo:isKey P kt kx) (zp:∀p∈kvs,isKey P kt p.1)
  (zq:∀(j:Nat) (p:AV×AV),kvs[j]?=some p->p.1=kx->R (({ S with hp:=S.hp.set id (.mp (kvs.set j (kx,vy))) }:AS).putD o.dst (.tup [])))
  (zr:(∀p∈kvs,p.1≠kx)->R (({ S with hp:=S.hp.set id (.mp (kvs++[(kx,vy)])) }:AS).putD o.dst (.tup []))):Wb P nt k true ops o S R:=λC a w K' Q hst hK=>by
 unfold OpW;rw[if_pos (hst.wanted hw)];obtain⟨I,m,zg,zc,hk,hE⟩:=hst;have zh:=hT.und ht;rw[hit]at zh;obtain⟨b,hb,_,zk⟩:=(Qr zc hx).mref_inv;obtain⟨u,lk,hu,ze⟩:=zo;have zt:kx.pure=true:=AV.kv_pure hu;have zd:=(Qr zc zm).toPure zt;have zb:=zd.kv hu;have z7:PVR w I u kx:=by rw[<-zb];exact zd
 have hyp:=(Qr zc hy).toPure zn;obtain⟨b',es,ck,zl,hh,zi,hr⟩:=zg.obj id _ zf;have hl:=zi.size;obtain rfl:b=b':=by rw[hb]at zl;exact Option.some.inj zl
 have z1:w.shape? b=none:=by simp[World.shape?,hh]
 have z8:∀o':Obj,w.grownBy { w with heap:=w.heap.setIfInBounds b o' } (some b):=λo'=>⟨rfl,rfl,rfl,by simp,λi _ hi=>by
  simp only[];rw[wW (λe=>hi (by rw[e]))]⟩
 have za:∀o':Obj,({ w with heap:=w.heap.setIfInBounds b o' }:World).heap[b]?=some o':=λo'=>by have:b<w.heap.size:=(yQ.1 hh).1;simp[this]
 unfold wpA;rcases Ob K hl (λi e p a b=>(hr i e p a b).1) hu ze zp with⟨h1,h2⟩|⟨j,e,p,h1,h2,h3,h4,h5⟩
 ·have:(execOp a.eval o).run P w= .ok .skip { w with heap:=w.heap.setIfInBounds b (.map (es.push ⟨u,a.eval y,ck⟩) (ck+1)) }:=by simp[execOp,ho,zk,zb,Instr.mapUpdate,run_underlying zh,MapKept.run_getObj_map hh,K.check w _ ze,h1,MapKept.run_setObj_map _ hh,Result.andThen]
  rw[this];obtain⟨g1,g2⟩:=zg.set (o':= .mp (kvs++[(kx,vy)])) zf rfl hb (z8 (.map (es.push ⟨u,a.eval y,ck⟩) (ck+1))) (λs hs=>by rw[z1]at hs;cases hs) (λm' hf=>⟨b,_,_,rfl,za _,zi.push _ _ _,λi e' p' he z6=>by
   rw[vI]at he;split at he
   ·rename_i hi;cases he;rw[zH (by omega)]at z6;have:i - kvs.length=0:=by omega
    rw[this]at z6;cases z6;exact⟨z7.mono hf.ext,hyp.mono hf.ext⟩
   rename_i hi;have zu:i<es.size:=(yQ.1 he).1;rw[zF (by omega)]at z6;have:=hr i e' p' he z6;exact⟨this.1.mono hf.ext,this.2.mono hf.ext⟩⟩)
  exact hK _ _ _ (zr h2) (St.value zc hk hE g1 g2 (by simp) (Qo hd) (Tv _ _ _ _)) (λe=>by cases e)
 have:(execOp a.eval o).run P w= .ok .skip { w with heap:=w.heap.setIfInBounds b (.map (es.modify j λe=>{ e with key:=u,val:=a.eval y }) ck) }:=by have zj:=K.stays w ze;simp[execOp,ho,zk,zb,Instr.mapUpdate,run_underlying zh,MapKept.run_getObj_map hh,K.check w _ ze,h1,h2,h5,zj,MapKept.run_setObj_map _ hh,Result.andThen]
 rw[this];obtain⟨g1,g2⟩:=zg.set (o':= .mp (kvs.set j (kx,vy))) zf rfl hb (z8 (.map (es.modify j λe=>{ e with key:=u,val:=a.eval y }) ck)) (λs hs=>by rw[z1]at hs;cases hs) (λm' hf=>⟨b,_,_,rfl,za _,zi.modify _ _ _ _,λi e' p' he z6=>by
  rw[wU]at he;by_cases hij:j=i
  ·subst hij;rw[if_pos rfl,h2]at he;rw[zL (zB.1 h3).1]at z6;cases he;cases z6;exact⟨z7.mono hf.ext,hyp.mono hf.ext⟩
  rw[if_neg hij]at he;rw[zE hij]at z6;have:=hr i e' p' he z6;exact⟨this.1.mono hf.ext,this.2.mono hf.ext⟩⟩)
 exact hK _ _ _ (zq j p h3 h4) (St.value zc hk hE g1 g2 (by simp) (Qo hd) (Tv _ _ _ _)) (λe=>by cases e)
end
end
section
open Go.RowKit
inductive PlanM where
 |done
 |val (i:Nat) (p:PlanM)
 |one (i:Nat) (p:PlanM)
 |two (i:Nat) (p:PlanM) (j:Nat) (q:PlanM)
 |three (i:Nat) (p:PlanM) (j:Nat) (q:PlanM) (m:Nat) (r:PlanM)
 |four (i:Nat) (p:PlanM) (j:Nat) (q:PlanM) (m:Nat) (r:PlanM) (n:Nat) (s:PlanM)
def PlanM.size:PlanM->Nat
 | .done=>0
 | .val _ p=>p.size+1
 | .one _ p=>p.size+1
 | .two _ p _ _=>p.size+1
 | .three _ p _ _ _ _=>p.size+1
 | .four _ p _ _ _ _ _ _=>p.size+1
def Y9(ops:Array Oper)(cl:List (List Nat))(Wr:List Nat):PlanM->Array Bool->Bool
 | .done,l=>(Region.ready .any ops l).isEmpty
 | .val i p,l=>(match ops[i]? with
   |none=>false
   |some o=>isVal o.op && x0c ops cl Wr l i && (Region.ready .any ops l).contains i) && Y9 ops cl Wr p (l.setIfInBounds i true)
 | .one i p,l=>(ops[i]?).isSome && Region.ready .any ops l==[i] && Y9 ops cl Wr p (l.setIfInBounds i true)
 | .two i p j q,l=>(ops[i]?).isSome && (ops[j]?).isSome && Region.ready .any ops l==[i,j] && p.size==q.size && Y9 ops cl Wr p (l.setIfInBounds i true) && Y9 ops cl Wr q (l.setIfInBounds j true)
 | .three i p j q m r,l=>(ops[i]?).isSome && (ops[j]?).isSome && (ops[m]?).isSome && Region.ready .any ops l==[i,j,m] && p.size==q.size && p.size==r.size && Y9 ops cl Wr p (l.setIfInBounds i true) && Y9 ops cl Wr q (l.setIfInBounds j true) && Y9 ops cl Wr r (l.setIfInBounds m true)
 | .four i p j q m r n t,l=>(ops[i]?).isSome && (ops[j]?).isSome && (ops[m]?).isSome && (ops[n]?).isSome && Region.ready .any ops l==[i,j,m,n] && p.size==q.size && p.size==r.size && p.size==t.size && Y9 ops cl Wr p (l.setIfInBounds i true) && Y9 ops cl Wr q (l.setIfInBounds j true) && Y9 ops cl Wr r (l.setIfInBounds m true) && Y9 ops cl Wr t (l.setIfInBounds n true)
def Ip(P:Program)[Env P](T:TT)(nt k:Nat)(ops:Array Oper)(W:Nat->Bool)(Q:AS->Prop):PlanM->AS->Prop
 | .done,S=>Q S
 | .val i p,S=>stepT P T nt k ops W i (Ip P T nt k ops W Q p) S
 | .one i p,S=>Td P T nt k ops W i (Ip P T nt k ops W Q p) S
 | .two i p j q,S=>Td P T nt k ops W i (Ip P T nt k ops W Q p) S/\Td P T nt k ops W j (Ip P T nt k ops W Q q) S
 | .three i p j q m r,S=>Td P T nt k ops W i (Ip P T nt k ops W Q p) S/\Td P T nt k ops W j (Ip P T nt k ops W Q q) S/\Td P T nt k ops W m (Ip P T nt k ops W Q r) S
 | .four i p j q m r n t,S=>Td P T nt k ops W i (Ip P T nt k ops W Q p) S/\Td P T nt k ops W j (Ip P T nt k ops W Q q) S/\Td P T nt k ops W m (Ip P T nt k ops W Q r) S/\Td P T nt k ops W n (Ip P T nt k ops W Q t) S
section
variable {P:Program} [Env P] {T:TT} {nt k:Nat} {S:AS} {ops:Array Oper} {o:Oper} {R:AS->Prop} {Wr:List Nat}
def E4(hT:TOk P T){C:Cx P}(hd:Uu nt ops.toList=true)(z8:Region.noSelect ops=true):∀(p:PlanM) (listed:Array Bool) (S:AS) (a:Act) (w:World),Pd ops listed->Y9 ops (Ij ops.toList []) Wr p listed=true->Ip P T nt k ops Wr.contains R p S->St C nt k S a w->
  Xa P ops Wr (d1i C nt k R) p.size listed a w
 | .done,listed,S,a,w,_,hp,h,hs=>⟨by simpa[Y9]using hp,S,h,hs⟩
 | .val i p,listed,S,a,w,z7,hp,h,hs=>by
  unfold Y9 at hp;unfold Ip stepT at h;rw[zX]at hp;obtain⟨zg,za⟩:=hp;cases ho:ops[i]? with
  |none=>rw[ho]at h;exact h.elim
  |some o=>
   rw[ho]at h zg;simp only at h zg;have zk:Wq nt o=true:=zW.1 hd o (by simpa using ul ho);simp only[zX]at zg;obtain⟨⟨hv,hf⟩,hr⟩:=zg;have zl:Ap o.op=true:=by cases hop:o.op<;>rw[hop]at hv<;>first|rfl|exact hv|(simp[isVal]at hv)
   rw[if_pos zl]at h;have z1:i∈Region.ready .any ops listed:=by simpa using hr
   split at h
   ·rename_i S' zm;obtain⟨v,hy,z6⟩:=hs.yields hT zk hv zm;exact Gd ho (Region.noSelect_spec z8) (λc a w hq=>hq) (λx y=>Uw o.op=true->Tl x y) (λw _=>Tl.refl w) (λx y z h1 h2 hr=>(h1 hr).trans (h2 hr)) p.size listed a w
     (λj oj hj zn zo zp=>x02 ho hf j oj hj zn zo zp) z7 z1 hy (E4 hT hd z8 p _ S' _ w (z7.set z1) za h.2 z6)
   exact h.elim
 | .one i p,listed,S,a,w,z7,hp,h,hs=>by
  unfold Y9 at hp;simp only[zX,beq_iff_eq]at hp;obtain⟨⟨_,z1⟩,za⟩:=hp;have zq:i∈Region.ready .any ops listed:=by rw[z1];simp
  refine⟨λh0=>(by rw[z1]at h0;cases h0),λj hj=>?_⟩;rw[z1]at hj;obtain rfl:j=i:=by simpa using hj
  exact Rm hT hd h hs λS' a' w' hR z6=>E4 hT hd z8 p _ S' a' w' (z7.set zq) za hR z6
 | .two i p j q,listed,S,a,w,z7,hp,h,hs=>by
  unfold Y9 at hp;simp only[zX,beq_iff_eq]at hp;obtain⟨⟨⟨⟨_,z1⟩,zc⟩,za⟩,zd⟩:=hp;have ze:i∈Region.ready .any ops listed:=by rw[z1];simp
  have zf:j∈Region.ready .any ops listed:=by rw[z1];simp
  refine⟨λh0=>(by rw[z1]at h0;cases h0),λm hm=>?_⟩;rw[z1]at hm;rcases(by simpa using hm:m=i\/m=j)with rfl|rfl
  ·exact Rm hT hd h.1 hs λS' a' w' hR z6=>E4 hT hd z8 p _ S' a' w' (z7.set ze) za hR z6
  refine Rm hT hd h.2 hs λS' a' w' hR z6=>?_;have:=E4 hT hd z8 q _ S' a' w' (z7.set zf) zd hR z6;rw[<-zc]at this;exact this
 | .three i p j q g r,listed,S,a,w,z7,hp,h,hs=>by
  unfold Y9 at hp;simp only[zX,beq_iff_eq]at hp;obtain⟨⟨⟨⟨⟨⟨_,z1⟩,zc⟩,zb⟩,za⟩,zd⟩,zh⟩:=hp;have ze:i∈Region.ready .any ops listed:=by rw[z1];simp
  have zf:j∈Region.ready .any ops listed:=by rw[z1];simp
  have zi:g∈Region.ready .any ops listed:=by rw[z1];simp
  refine⟨λh0=>(by rw[z1]at h0;cases h0),λm hm=>?_⟩;rw[z1]at hm;rcases(by simpa using hm:m=i\/m=j\/m=g)with rfl|rfl|rfl
  ·exact Rm hT hd h.1 hs λS' a' w' hR z6=>E4 hT hd z8 p _ S' a' w' (z7.set ze) za hR z6
  ·refine Rm hT hd h.2.1 hs λS' a' w' hR z6=>?_;have:=E4 hT hd z8 q _ S' a' w' (z7.set zf) zd hR z6;rw[<-zc]at this;exact this
  refine Rm hT hd h.2.2 hs λS' a' w' hR z6=>?_;have:=E4 hT hd z8 r _ S' a' w' (z7.set zi) zh hR z6;rw[<-zb]at this;exact this
 | .four i p j q g r n t,listed,S,a,w,z7,hp,h,hs=>by
  unfold Y9 at hp;simp only[zX,beq_iff_eq]at hp;obtain⟨⟨⟨⟨⟨⟨⟨⟨_,z1⟩,zc⟩,zb⟩,zj⟩,za⟩,zd⟩,zh⟩,zr⟩:=hp;have ze:i∈Region.ready .any ops listed:=by rw[z1];simp
  have zf:j∈Region.ready .any ops listed:=by rw[z1];simp
  have zi:g∈Region.ready .any ops listed:=by rw[z1];simp
  have zt:n∈Region.ready .any ops listed:=by rw[z1];simp
  refine⟨λh0=>(by rw[z1]at h0;cases h0),λm hm=>?_⟩;rw[z1]at hm;rcases(by simpa using hm:m=i\/m=j\/m=g\/m=n)with rfl|rfl|rfl|rfl
  ·exact Rm hT hd h.1 hs λS' a' w' hR z6=>E4 hT hd z8 p _ S' a' w' (z7.set ze) za hR z6
  ·refine Rm hT hd h.2.1 hs λS' a' w' hR z6=>?_;have:=E4 hT hd z8 q _ S' a' w' (z7.set zf) zd hR z6;rw[<-zc]at this;exact this
  ·refine Rm hT hd h.2.2.1 hs λS' a' w' hR z6=>?_;have:=E4 hT hd z8 r _ S' a' w' (z7.set zi) zh hR z6;rw[<-zb]at this;exact this
  refine Rm hT hd h.2.2.2 hs λS' a' w' hR z6=>?_;have:=E4 hT hd z8 t _ S' a' w' (z7.set zt) zr hR z6;rw[<-zj]at this;exact this
def Sw (hT:TOk P T) (hm:P.follows .mixedOrders=true) {Q:Exit->AS->Prop} {id:Nat} {l:List Oper} (Wr:List Nat) (p:PlanM) (hd:Uu nt l=true)
  (hp:(Region.noSelect l.toArray && p.size==l.length && Y9 l.toArray (Ij l []) Wr p (u4 l.length false))=true)
  (h:Ip P T nt k l.toArray Wr.contains (Q .normal) p S):AWP P nt k (.region id l.toArray true) Q S:=λC a w hs=>by
 simp only[zX,beq_iff_eq]at hp;obtain⟨⟨h1,h2⟩,h3⟩:=hp;refine X5 (wpIn_region_any hm (Ft (Wr:=Wr) _ _ _ _ ?_));have z8:St C nt k S a { w with drawn:=w.drawn+1 }:=by
  obtain⟨I,m,hw,z1,hk,hE⟩:=hs;have hb:Below w.heap.size w { w with drawn:=w.drawn+1 }:=⟨rfl,rfl,rfl,zQ _,λ_ _=>rfl⟩
  obtain⟨g1,g2⟩:=hw.step hb (λ_ h=>h) (λb z6=>⟨(hw.iw b z6).1,.inl z6⟩);exact⟨I,m,g1,⟨z1.1,z1.2.1,λt x hx=>by obtain⟨v,hv,hr⟩:=z1.2.2 t x hx;exact⟨v,hv,hr.mono g2 (zQ _)⟩⟩,hk,hE.trans hk g2⟩
 have:=E4 hT (C:=C) (nt:=nt) (k:=k) (R:=Q .normal) (by simpa using hd) h1 p (u4 l.length false) S a _ (λj o ho hj=>by
  have z7:=(yQ.1 ho).1;simp at z7;simp[z7]at hj) (by simpa using h3) h z8
 rw[h2]at this;simpa using this
def Wb.mono{wr:Bool}{R':AS->Prop}(h:Wb P nt k wr ops o S R)(hr:∀S,R S->R' S):Wb P nt k wr ops o S R':=
 λC a w K Q hs hK=>h C a w K Q hs λS' a' w' hR=>hK S' a' w' (hr S' hR)
def u09{W:Nat->Bool}{i:Nat}{R':AS->Prop}(hr:∀S,R S->R' S)(h:stepT P T nt k ops W i R S):stepT P T nt k ops W i R' S:=by
 unfold stepT at h |-;split at h
 ·exact h
 split at h
 ·rename_i z1;rw[if_pos z1];split at h
  ·exact⟨h.1,hr _ h.2⟩
  exact h
 rename_i z1;rw[if_neg z1];exact h.mono hr
def Em{W:Nat->Bool}{i:Nat}{R':AS->Prop}(hr:∀S,R S->R' S)(h:Td P T nt k ops W i R S):Td P T nt k ops W i R' S:=by
 unfold Td at h |-;split at h
 ·exact h
 split at h
 ·rename_i z1;rw[if_pos z1];split at h
  ·exact⟨h.1,hr _ h.2⟩
  exact h.mono hr
 rename_i z1;rw[if_neg z1];exact h.mono hr
def Ei{W:Nat->Bool}{Q Q':AS->Prop}(hq:∀S,Q S->Q' S):∀(p:PlanM) (S:AS),Ip P T nt k ops W Q p S->Ip P T nt k ops W Q' p S
 | .done,S,h=>hq S h
 | .val i p,S,h=>u09 (λS=>Ei hq p S) h
 | .one i p,S,h=>Em (λS=>Ei hq p S) h
 | .two i p j q,S,h=>⟨Em (λS=>Ei hq p S) h.1,Em (λS=>Ei hq q S) h.2⟩
 | .three i p j q m r,S,h=>⟨Em (λS=>Ei hq p S) h.1,Em (λS=>Ei hq q S) h.2.1,Em (λS=>Ei hq r S) h.2.2⟩
 | .four i p j q m r n t,S,h=>⟨Em (λS=>Ei hq p S) h.1,Em (λS=>Ei hq q S) h.2.1,Em (λS=>Ei hq r S) h.2.2.1,Em (λS=>Ei hq t S) h.2.2.2⟩
def u14(P:Program)[Env P](nt k:Nat)(S S':AS):Prop:=∀(C:Cx P) (a:Act) (w:World),St C nt k S a w->St C nt k S' a w
def w14 {sl sl':List (Nat×AV)} {H H':List AObj} (ix:List Nat)
  (h1:ix.map (λi=>H[i]?)=H'.map (λo=>some (o.ren (rn ix)))) (h2:ix.Nodup) (h3:k<=ix.length) (z1:ix.take k=List.range k)
  (h4:sl'.all (λp=>p.2.under H'.length)=true) (z6:H'.all (E7 H'.length)=true) (h5:Av sl (sl'.map λp=>(p.1,p.2.ren (rn ix)))):u14 P nt k ⟨sl,H⟩ ⟨sl',H'⟩:=
 λC a w hs=>hs.ren ix h1 h2 h3 z1 h4 z6 h5
def u0g{sl sl':List (Nat×AV)}{H:List AObj}(hk:Av sl sl'):u14 P nt k ⟨sl,H⟩ ⟨sl',H⟩:=λ_ _ _ hs=>hs.sub rfl (Ru hk)
def q18 (hT:TOk P T) (hm:P.follows .mixedOrders=true) {Q Q':Exit->AS->Prop} {id:Nat} {l:List Oper} {next:Code} (Wr:List Nat) (p:PlanM) (Sc:AS) (hd:Uu nt l=true)
  (hp:(Region.noSelect l.toArray && p.size==l.length && Y9 l.toArray (Ij l []) Wr p (u4 l.length false))=true)
  (h:Ip P T nt k l.toArray Wr.contains (λS=>u14 P nt k S Sc) p S) (hn:AWP P nt k next Q Sc):AWP P nt k (.region id l.toArray true) (Se (AWP P nt k next Q) Q') S:=
 (Sw (Q:=λe S=>e= .normal/\u14 P nt k S Sc) hT hm Wr p hd hp (Ei (λ_ h=>⟨rfl,h⟩) p S h)).mono λe S ⟨he,hr⟩=>by subst he;exact λC a w hs=>hn C a w (hr C a w hs)
end
attribute [simp] Ip AV.nrm AV.nrm1
end
section
open Go.RowKit
section
variable {P:Program} [Env P] {T:TT} {nt k:Nat} {S:AS} {ops:Array Oper} {o:Oper} {R:AS->Prop}
def f1h(z:Array Value)(n p j:Nat)(hp:p<n)(hj:j<z.size):(madeCells z (n * z.size))[p * z.size+j]? =z[j]? :=by
 have z1:p * z.size+j<n * z.size:=by have:(p+1) * z.size<=n * z.size:=yF _ hp;rw[yO]at this;omega
 unfold madeCells;rw[Array.getElem?_map];simp only[Array.getElem?_range,z1];simp only[if_true,wG];rw[Nat.mul_comm p,Nat.mul_add_mod,tM hj];simp[hj]
def Rj (hT:TOk P T) {wr:Bool} (hw:Qt ops S o=some true) (hd:Wq nt o=true) {t e:TypeId} {l c:Operand} (ho:o.op= .makeSlice t l c) {it ei:TI} (ht:look T t=some it) (hit:it.desc= .slice e) (he:look T e=some ei)
  (hz:ei.zero.cells.size=ei.size) {kl kc:IntKind} {n:Nat} (hl:rho S.sl l=some (.int kl n)) (hc:rho S.sl c=some (.int kc n)) (hb:ei.bytes * n<=281474976710656) (hn:n<=maxLen) (z:AV) (zb:z.cells=ei.zeros)
  (hR:R (({ S with hp:=S.hp++[.arr e ei.size (yI n z)] }:AS).putD o.dst (.sl S.hp.length ei.size 0 n))):Wb P nt k wr ops o S R:=λC a w K Q hst hK=>by
 unfold OpW;rw[if_pos (hst.wanted hw)];obtain⟨I,m,zg,z6,zh,hE⟩:=hst;have zc:=hT.und ht;rw[hit]at zc;obtain⟨i,hi,i1,i2,i3⟩:=hT.info he;have zi:=(Qr z6 hl).int_inv;have zj:=(Qr z6 hc).int_inv;have zk:(n:Int)<=9223372036854775807:=by unfold maxLen at hn;omega
 have zl:(i.bytes:Int) * (n:Int)<=281474976710656:=by
  have h:((i.bytes * n:Nat):Int)<=281474976710656:=by rw[i3];omega
  rwa [tW]at h
 have z1:=run_make (P:=P) w t e i ei.zero zc hi i1 kl kc n n (by omega) (Int.le_refl _) zl zk;simp only[Int.toNat_natCast]at z1;rw[i2,<-hz]at z1;obtain⟨cs,z7⟩:∃cs,madeCells ei.zero.cells (n * ei.zero.cells.size)=cs:=⟨_,rfl⟩
 have zd:cs.size=n * ei.size:=by rw[<-z7,<-hz];simp[madeCells]
 have z8:∀p j,p<n->j<ei.size->cs[p * ei.size+j]? =ei.zero.cells[j]? :=λp j hp hj=>by rw[<-z7,<-hz];exact f1h _ _ _ _ hp (by omega)
 rw[z7]at z1;have za:(execOp a.eval o).run P w= .ok (.value (.slice (some ⟨w.heap.size,0,none⟩) n n)) (w.alloc (.cells cs e)):=by simp[execOp,ho,zi,zj,z1]
 have ze:Below w.heap.size w (w.alloc (.cells cs e)):=(Below.refl _ _).alloc (zQ _) _;have zf:z.cells.length=ei.size:=by rw[zb,TI.zeros,zY,wO,hz]
 obtain⟨g1,g2⟩:=zg.push ze (some w.heap.size) (λb e=>by injection e with e;subst e;simp) (.arr e ei.size (yI n z)) (λm' hf hm=> .inr ⟨w.heap.size,n,cs,rfl,heap_alloc_new w _,by simp,hn,zd,
  λy hy=>by rw[wY hy];exact zf,λp y hp j v hv=>by
   rw[vW]at hp;split at hp
   ·rename_i zm;obtain rfl:=Option.some.inj hp;have hj:j<ei.size:=by rw[<-zf];exact(zB.1 hv).1
    rw[zb,TI.zeros,zU]at hv;obtain⟨u,hu,rfl⟩:=zS.1 hv;rw[ww]at hu;exact⟨u,by rw[z8 p j zm hj];exact hu,U2 u⟩
   cases hp⟩)
 unfold wpA;rw[za];refine hK _ _ _ hR (St.value z6 zh hE g1 g2 (by simp) (Qo hd) ?_) (λ_=>Tl.of_below ze);have:=VR.sl (w:=w.alloc (.cells cs e)) (I:=I) (m:=upd m S.hp.length (some w.heap.size)) (n:=S.hp.length+1) S.hp.length ei.size 0 n n w.heap.size e (by omega) (Q8 _ _ _)
  (by have:=heap_alloc_new w (.cells cs e);simp only[World.shape?,this,x_];rw[zd]) (zQ _) (by omega)
 simpa using this
end
end
section
open Go.RowKit
section
variable {P:Program} [Env P] {nt k:Nat} {Q:Exit->AS->Prop}
def Ex {c:Code} {sl:List (Nat×AV)} {H:List AObj} (i j e sz:Nat) {xs:List AV} (hi:H[i]?=some (.vars xs)) (hj:xs[j]?=some .nils)
  (h:AWP P nt k c Q ⟨sl,(H++[AObj.arr e sz []]).set i (.vars (xs.set j (.sl H.length sz 0 0)))⟩):AWP P nt k c Q ⟨sl,H⟩:=λC a w hs=>by
 obtain⟨I,m,hw,z1,hk,hf⟩:=hs;obtain⟨g1,g2⟩:=hw.push (Below.refl _ _) none (λb e=>by cases e) (.arr e sz []) (λm' _ _=> .inl ⟨rfl,rfl⟩);have z8:i<H.length:=(zB.1 hi).1;have z6:(H++[AObj.arr e sz []])[i]?=some (.vars xs):=by rw[zF z8];exact hi
 obtain⟨b,t,vs,hb,hh,za,hr⟩:=g1.obj i _ z6;obtain⟨g3,g4⟩:=g1.set (w':=w) (o':= .vars (xs.set j (.sl H.length sz 0 0))) z6 rfl hb (World.grownBy.refl _ _) (λ_ h=>h) (λm' z7=>⟨b,t,vs,rfl,hh,by simp[za],λq v x hv hx=>by
  by_cases hq:j=q
  ·subst hq;rw[zL (zB.1 hj).1]at hx;cases hx;have:=(hr j v _ hv hj).nils_inv;subst this;exact .slnone H.length sz (by simp) (by rw[z7.ids _ (by simp)];exact Q8 ..)
  rw[zE hq]at hx;exact(hr q v x hv hx).mono z7 (zQ _)⟩)
 have hlen:((H++[AObj.arr e sz []]).set i (.vars (xs.set j (.sl H.length sz 0 0)))).length=H.length+1:=by simp
 refine h C a w ⟨I,upd m H.length none,g3,⟨z1.1,z1.2.1,λs x hx=>?_⟩,by simp at hk |-;omega,hf.trans hk g2⟩;obtain⟨v,hv,zb⟩:=z1.2.2 s x hx;refine⟨v,hv,?_⟩;have:=zb.mono (n':=H.length+1) g2 (by simp);rw[hlen];exact this
def St.freeze1{C:Cx P}{a:Act}{w:World}{sl:List (Nat×AV)}{H:List AObj}(hs:St C nt k ⟨sl,H⟩ a w)(i:Nat){e c:Nat}{xs:List AV}(hi:H[i]?=some (.arr e c xs)):
  St C nt k ⟨sl.map λp=>(p.1,p.2.fz i c xs),H.set i .dead⟩ a w:=by
 obtain⟨I,m,hw,z7,hk,hf⟩:=hs;have z8:Ext w w I (λb=>I b\/m i=some b):=⟨λ_ h=> .inl h,λ_ _=>rfl⟩
 have z6:Fut H.length w I m w (λb=>I b\/m i=some b) m:=⟨z8,λ_ _=>rfl,λ_ _ h=>h⟩
 have hlen:(H.set i .dead).length=H.length:=by simp
 have z1:∀(id:Nat) (o:AObj),(H.set i .dead)[id]?=some o->o.live=true->id≠i/\H[id]?=some o:=λid o ho hl=>by
  by_cases hid:id=i
  ·subst hid;rw[zL (zB.1 hi).1]at ho;cases ho;simp[AObj.live]at hl
  rw[zE (by omega)]at ho;exact⟨hid,ho⟩
 refine⟨λb=>I b\/m i=some b,m,⟨hw.below,λb hb=> .inl (hw.i0 b hb),λb hb=>?_,λid o ho=>?_,λid o b ho hl hm=>?_,λa b oa ob d ha hb la lb ma mb=>?_⟩,⟨z7.1,z7.2.1,λt x hx=>?_⟩,by rw[hlen];exact hk,hf.trans hk z6⟩
 ·rcases hb with hb|hb
  ·exact hw.iw b hb
  have:=hw.own i _ b hi rfl hb;exact⟨this.2.2,.inr this.1⟩
 ·rw[hlen];by_cases hid:id=i
  ·subst hid;rw[zL (zB.1 hi).1]at ho;cases ho;trivial
  rw[zE (by omega)]at ho;exact U4.mono (hw.obj id o ho) z6 (zQ _) (λ_ _ _=>rfl)
 ·obtain⟨zb,za⟩:=z1 id o ho hl;have h1:=hw.own id o b za hl hm;refine⟨h1.1,λhc=>?_,h1.2.2⟩;rcases hc with hc|hc
  ·exact h1.2.1 hc
  exact zb (hw.inj id i o _ b za hi hl rfl hm hc)
 ·obtain⟨_,zc⟩:=z1 a oa ha la;obtain⟨_,zd⟩:=z1 b ob hb lb;exact hw.inj a b oa ob d zc zd la lb ma mb
 rw[hlen];have:=Fj hx;obtain⟨y,hy,rfl⟩:=this;obtain⟨v,hv,hr⟩:=z7.2.2 t y hy;exact⟨v,hv,hr.fz hw hi⟩
def Wi{cd:Code}{sl:List (Nat×AV)}{H:List AObj}(i:Nat){e c:Nat}{xs:List AV}(hi:H[i]?=some (.arr e c xs))(h:AWP P nt k cd Q ⟨sl.map λp=>(p.1,p.2.fz i c xs),H.set i .dead⟩):AWP P nt k cd Q ⟨sl,H⟩:=
 λC a w hs=>h C a w (hs.freeze1 i hi)
def Wg{wr:Bool}{ops:Array Oper}{o:Oper}{R:AS->Prop}{sl:List (Nat×AV)}{H:List AObj}(i:Nat){e c:Nat}{xs:List AV}(hi:H[i]?=some (.arr e c xs))(h:Wb P nt k wr ops o ⟨sl.map λp=>(p.1,p.2.fz i c xs),H.set i .dead⟩ R):Wb P nt k wr ops o ⟨sl,H⟩ R:=
 λC a w K Q hs=>h C a w K Q (hs.freeze1 i hi)
def St.freezeC{C:Cx P}{a:Act}{w:World}{sl:List (Nat×AV)}{H:List AObj}(hs:St C nt k ⟨sl,H⟩ a w)(i:Nat){e c:Nat}{xs:List AV}(hi:H[i]?=some (.arr e c xs))(t:Nat){cs:List AV}(ht:H[t]?=some (.vars cs)):
  St C nt k ⟨sl.map λp=>(p.1,p.2.fz i c xs),(H.set i .dead).set t (.vars (cs.map λx=>x.fz i c xs))⟩ a w:=by
 obtain⟨I,m,hw,z7,hk,hf⟩:=hs;have za:t≠i:=λh=>by rw[h,hi]at ht;cases ht
 have zc:t<H.length:=(zB.1 ht).1;have z8:Ext w w I (λb=>I b\/m i=some b):=⟨λ_ h=> .inl h,λ_ _=>rfl⟩
 have z6:Fut H.length w I m w (λb=>I b\/m i=some b) m:=⟨z8,λ_ _=>rfl,λ_ _ h=>h⟩
 have hlen:((H.set i .dead).set t (.vars (cs.map λx=>x.fz i c xs))).length=H.length:=by simp
 have z1:∀(id:Nat) (o:AObj),((H.set i .dead).set t (.vars (cs.map λx=>x.fz i c xs)))[id]?=some o->o.live=true->id≠i/\∃o',H[id]?=some o'/\o'.live=true:=λid o ho hl=>by
  by_cases hid:id=i
  ·subst hid;rw[zE za,zL (zB.1 hi).1]at ho;cases ho;simp[AObj.live]at hl
  by_cases hit:id=t
  ·subst hit;exact⟨hid,_,ht,rfl⟩
  rw[zE (by omega),zE (by omega)]at ho;exact⟨hid,_,ho,hl⟩
 refine⟨λb=>I b\/m i=some b,m,⟨hw.below,λb hb=> .inl (hw.i0 b hb),λb hb=>?_,λid o ho=>?_,λid o b ho hl hm=>?_,λa b oa ob d ha hb la lb ma mb=>?_⟩,⟨z7.1,z7.2.1,λt x hx=>?_⟩,by rw[hlen];exact hk,hf.trans hk z6⟩
 ·rcases hb with hb|hb
  ·exact hw.iw b hb
  have:=hw.own i _ b hi rfl hb;exact⟨this.2.2,.inr this.1⟩
 ·rw[hlen];by_cases hid:id=i
  ·subst hid;rw[zE za,zL (zB.1 hi).1]at ho;cases ho;trivial
  by_cases hit:id=t
  ·subst hit;rw[zL (by simpa using zc)]at ho;cases ho;exact(hw.obj id _ ht).fz hw hi
  rw[zE (by omega),zE (by omega)]at ho;exact U4.mono (hw.obj id o ho) z6 (zQ _) (λ_ _ _=>rfl)
 ·obtain⟨zd,o',zb,hl'⟩:=z1 id o ho hl;have h1:=hw.own id o' b zb hl' hm;refine⟨h1.1,λhc=>?_,h1.2.2⟩;rcases hc with hc|hc
  ·exact h1.2.1 hc
  exact zd (hw.inj id i o' _ b zb hi hl' rfl hm hc)
 ·obtain⟨_,ze,zf,zg⟩:=z1 a oa ha la;obtain⟨_,zh,zi,zj⟩:=z1 b ob hb lb;exact hw.inj a b ze zh d zf zi zg zj ma mb
 rw[hlen];have:=Fj hx;obtain⟨y,hy,rfl⟩:=this;obtain⟨v,hv,hr⟩:=z7.2.2 t y hy;exact⟨v,hv,hr.fz hw hi⟩
def Q6{cd:Code}{sl:List (Nat×AV)}{H:List AObj}(i:Nat){e c:Nat}{xs:List AV}(hi:H[i]?=some (.arr e c xs))(t:Nat){cs:List AV}(ht:H[t]?=some (.vars cs))(h:AWP P nt k cd Q ⟨sl.map λp=>(p.1,p.2.fz i c xs),(H.set i .dead).set t (.vars (cs.map λx=>x.fz i c xs))⟩):AWP P nt k cd Q ⟨sl,H⟩:=
 λC a w hs=>h C a w (hs.freezeC i hi t ht)
end
end
section
open Go.RowKit
def Md(x:AV):x.nrm.cells.length=x.cells.length/\∀(j:Nat) (y':AV),x.nrm.cells[j]?=some y'->∃y,x.cells[j]?=some y/\∀(w:World) (I:Nat->Prop) (v:Value),PVR w I v y->PVR w I v y':=by
 cases x with
 |agg cs=>refine⟨by simp[AV.nrm,AV.cells],λj y' h=>?_⟩;simp only[AV.nrm,AV.cells,zU]at h;obtain⟨y,hy,rfl⟩:=zS.1 h;exact⟨y,hy,λw I v h=>h.nrm1⟩
 |nils=>
  refine⟨rfl,λj y' h=>?_⟩;cases j with
  |zero=>cases h;exact⟨.nils,rfl,λw I v h=>h.nrm1⟩
  |succ j=>cases h
 |fn f xs ys=>
  refine⟨rfl,λj y' h=>?_⟩;cases j with
  |zero=>cases h;exact⟨.fn f xs ys,rfl,λw I v h=>h.nrm⟩
  |succ j=>cases h
 |_=>exact⟨rfl,λj y' h=>⟨y',h,λw I v h=>h⟩⟩
def AV.nrmL:AV->AV
 | .list xs=> .list (xs.map AV.nrm)
 |x=>x
section
variable {P:Program} [Env P] {nt k:Nat} {Q:Exit->AS->Prop}
end
attribute [simp] AV.nrmL
end
section
open Go.RowKit
section
variable {P:Program} [Env P] {T:TT} {nt k:Nat} {S:AS} {ops:Array Oper} {o:Oper} {R:AS->Prop}
section
variable {W0 w w':World} {I0 I:Nat->Prop} {m:Nat->Option Nat} {H:List AObj}
def Vh(H:List AObj):AV->Option (List AV)
 | .list ys=>some ys
 | .sl id c lo len=>match H[id]? with
  |some (.arr _ c' xs)=>if c=c'/\lo+len<=xs.length then some ((xs.drop lo).take len)else none
  |some (.va _ c' xs)=>if c=c'/\lo+len<=xs.length then some ((xs.drop lo).take len)else none
  |_=>none
 | .nils=>some []
 |_=>none
def w0f(hw:WS W0 I0 w I m H){v:Value}{x:AV}{ys:List AV}(hv:VR w I m H.length v x)(h:Vh H x=some ys):
  ∃(ao:Option Addr) (cap:Nat) (u:Nat->Nat->Value),v= .slice ao ys.length cap/\
   (0<ys.length->∃ad,ao=some ad/\∃c,(∀y∈ys,y.cells.length=c)/\∀i j,i<ys.length->j<c->w.cell? (ad.add (i * c+j))=some (u i j))/\
   (∀(i:Nat) (x:AV),ys[i]?=some x->∀(j:Nat) (y:AV),x.cells[j]?=some y->VR w I m H.length (u i j) y):=by
 cases x with
 |list zs=>simp only[Vh,Option.some.injEq]at h;subst h;obtain⟨a,cap,c,u,rfl,_,_,hc,ha,hu⟩:=hv.list_inv.list_inv;exact⟨a,cap,u,rfl,λh0=>by obtain⟨ad,e,_,hcell⟩:=ha h0;exact⟨ad,e,c,hc,hcell⟩,λi x hx j y hy=> .pure (hu i x hx j y hy)⟩
 |nils=>simp only[Vh,Option.some.injEq]at h;subst h;obtain rfl:=hv.nils_inv;exact⟨none,0,λ_ _=>undef,rfl,λh0=>by simp at h0,λi x hx=>by simp at hx⟩
 |sl id c lo len=>
  simp only[Vh]at h;split at h
  ·rename_i e c' xs ho;split at h
   ·rename_i hc;obtain⟨rfl,hl⟩:=hc;simp only[Option.some.injEq]at h;subst h;have hlen:((xs.drop lo).take len).length=len:=by simp;omega
    rcases hv.sl_inv with⟨b,cap,t,hb,hn,hs,hl',hmax,rfl⟩|⟨hb,hn,rfl,rfl,rfl⟩|⟨ad,hn,hlo,rfl,rfl⟩
    ·rcases hw.obj id _ ho with⟨e1,rfl⟩|⟨b',z1,vs,z6,hh,q1,q2,q3,q4,hr⟩
     ·rw[hb]at e1;cases e1
     obtain rfl:b=b':=by rw[hb]at z6;exact Option.some.inj z6
     refine⟨_,cap,λi j=>vs.getD ((lo+i) * c+j) undef,by rw[hlen],λ_=>⟨_,rfl,c,λx hx=>q4 x (uy (xU hx)),λi j hi hj=>?_⟩,λi x hx j z hz=>?_⟩
     ·rw[hlen]at hi;rw[Addr.add_lit,cell_of_row w b _ vs e (0,0) hh];simp only[yO];have z7:(lo+i) * c+j<vs.size:=by rw[q3];have:(lo+i+1) * c<=z1 * c:=yF c (by omega);rw[yO (lo+i)]at this;omega
      rw[yO]at z7;rw[show lo * c+(i * c+j)=lo * c+i * c+j by omega];simp[z7]
     rw[xR]at hx;split at hx
     ·rw[xP]at hx;obtain⟨v,hv,hp⟩:=hr (lo+i) x hx j z hz;simp only[wR,hv,wC];exact .pure hp
     cases hx
    ·exact⟨none,0,λ_ _=>undef,by rw[hlen],λh0=>by simp at h0,λi x hx=>by simp at hx⟩
    exact⟨some ad,0,λ_ _=>undef,by rw[hlen],λh0=>by simp at h0,λi x hx=>by simp at hx⟩
   cases h
  ·rename_i e c' xs ho;split at h
   ·rename_i hc;obtain⟨rfl,hl⟩:=hc;simp only[Option.some.injEq]at h;subst h;have hlen:((xs.drop lo).take len).length=len:=by simp;omega
    rcases hv.sl_inv with⟨b,cap,t,hb,hn,hs,hl',hmax,rfl⟩|⟨hb,hn,rfl,rfl,rfl⟩|⟨ad,hn,hlo,rfl,rfl⟩
    ·rcases hw.obj id _ ho with⟨e1,rfl⟩|⟨b',z1,vs,z6,hh,q1,q2,q3,q4,hr⟩
     ·rw[hb]at e1;cases e1
     obtain rfl:b=b':=by rw[hb]at z6;exact Option.some.inj z6
     refine⟨_,cap,λi j=>vs.getD ((lo+i) * c+j) undef,by rw[hlen],λ_=>⟨_,rfl,c,λx hx=>q4 x (uy (xU hx)),λi j hi hj=>?_⟩,λi x hx j z hz=>?_⟩
     ·rw[hlen]at hi;rw[Addr.add_lit,cell_of_row w b _ vs e (0,0) hh];simp only[yO];have z7:(lo+i) * c+j<vs.size:=by rw[q3];have:(lo+i+1) * c<=z1 * c:=yF c (by omega);rw[yO (lo+i)]at this;omega
      rw[yO]at z7;rw[show lo * c+(i * c+j)=lo * c+i * c+j by omega];simp[z7]
     rw[xR]at hx;split at hx
     ·rw[xP]at hx;obtain⟨v,hv,hp⟩:=hr (lo+i) x hx j z hz;simp only[wR,hv,wC];exact hp
     cases hx
    ·exact⟨none,0,λ_ _=>undef,by rw[hlen],λh0=>by simp at h0,λi x hx=>by simp at hx⟩
    exact⟨some ad,0,λ_ _=>undef,by rw[hlen],λh0=>by simp at h0,λi x hx=>by simp at hx⟩
   cases h
  cases h
 |_=>simp[Vh]at h
end
def Aa(S:AS)(e:TypeId)(c:Nat):AV->Option (List AV×List AObj)
 | .nils=>some ([],S.hp)
 | .sl id c' 0 len=>match S.hp[id]? with
  |some (.va e' c'' xs)=>if c'=c/\c''=c/\e'=e/\len=xs.length then some (xs,S.hp.set id .dead)else none
  |_=>none
 |_=>none
def X0 (hT:TOk P T) (hw:Qt ops S o=some true) {s x:Operand} {t e:TypeId} (ho:o.op= .call ⟨.builtin .append,#[s,x],#[t,t]⟩) {it ei:TI} (ht:look T t=some it) (hit:it.desc= .slice e) (he:look T e=some ei)
  (hz:ei.zero.cells.size=ei.size) (y2:0<ei.size) {sv xv:AV} (hs:rho S.sl s=some sv) (hx:rho S.sl x=some xv) {xs ys:List AV} {H1:List AObj} (hb:Aa S e ei.size sv=some (xs,H1)) (hy:Vh S.hp xv=some ys)
  (zw:∀y∈ys,y.cells.length=ei.size/\y.cells.all AV.leaf=true) (hbound:(xs.length+ys.length) * ei.bytes<=140737488355328) (hlen:xs.length+ys.length<=9223372036854775807) (hd:Wq nt o=true)
  (hR:R (({ S with hp:=H1++[.va e ei.size (xs++ys)] }:AS).putD o.dst (.sl S.hp.length ei.size 0 (xs.length+ys.length)))):Wb P nt k true ops o S R:=λC a w K Q hst hK=>by
 unfold OpW;rw[if_pos (hst.wanted hw)];obtain⟨I,m,zc,zr,hk,hE⟩:=hst;obtain⟨ao,cap,u,zl,hcell,zx⟩:=w0f zc (Qr zr hx) hy;have zy:=Qr zr hs;obtain⟨ti,zm,tz,ts,tb⟩:=hT.info he;have zi:=hT.und ht;rw[hit]at zi;have zj:H1.length=S.hp.length:=by
  unfold Aa at hb;split at hb
  ·simp only[Option.some.injEq,Prod.mk.injEq]at hb;rw[<-hb.2]
  ·split at hb
   ·split at hb
    ·simp only[Option.some.injEq,Prod.mk.injEq]at hb;rw[<-hb.2];simp
    cases hb
   cases hb
  cases hb
 -- what the run comes to decides all
 have fin:∀(v:Value) (w':World) (m':Nat->Option Nat),(Builtin.append_ #[t,t] o.type #[a.eval s,a.eval x]).run P w= .ok v w'->WS C.W0 C.I0 w' I m' (H1++[.va e ei.size (xs++ys)])->Fut S.hp.length w I m w' I m'->
   VR w' I m' (S.hp.length+1) v (.sl S.hp.length ei.size 0 (xs.length+ys.length))->wpA P o a w K Q:=λv w' m' z6 g1 g2 g3=>by
  unfold wpA;have:(execOp a.eval o).run P w= .ok (.value v) w':=by simp[execOp,ho,resolve,invoke,builtin,z6]
  rw[this];exact hK _ _ w' hR (St.value zr hk hE g1 g2 (by simp[zj]) (Qo hd) (by simpa[zj]using g3)) (λe=>by cases e)
 -- nothing is appended
 have zero:ys=[]->∀(b0:Option Addr) (n0 c0:Nat),n0<=c0->a.eval s= .slice b0 n0 c0->(Builtin.append_ #[t,t] o.type #[a.eval s,a.eval x]).run P w= .ok (.slice b0 n0 c0) w:=λz8 b0 n0 c0 hle zn=>by rw[zn,zl,z8];cases ao<;>cases b0<;>simp[Builtin.append_,run_underlying zi,sizeOf,typeInfo,zm,Builtin.lenOf,Builtin.firstCells,hle,loadCells,loadCellsFrom,storeCells]
 -- a new row
 have newrow:∀(z7:Nat) (cs:Array Value),xs.length+ys.length<=z7->z7<=maxLen->cs.size=z7 * ei.size->
   (∀(i:Nat) (z:AV),(xs++ys)[i]?=some z->z.cells.length=ei.size/\∀(j:Nat) (y:AV),z.cells[j]?=some y->∃v,cs[i * ei.size+j]?=some v/\VR w I m S.hp.length v y)->
   (Builtin.append_ #[t,t] o.type #[a.eval s,a.eval x]).run P w= .ok (.slice (some ⟨w.heap.size,0,none⟩) (xs.length+ys.length) z7) (w.drew.alloc (.cells cs e))->WS C.W0 C.I0 w I m H1->wpA P o a w K Q:=λz7 cs h1 h2 h3 h4 z6 zo=>by
  have y3:Below w.heap.size w (w.drew.alloc (.cells cs e)):=(Below.refl _ _).drew.alloc (zQ _) _;obtain⟨g1,g2⟩:=zo.push y3 (some w.heap.size) (λb e=>by injection e with e;subst e;simp) (.va e ei.size (xs++ys)) (λm' hf hm=> .inr ⟨w.heap.size,z7,cs,rfl,heap_alloc_new w.drew _,by simpa using h1,h2,h3,
   λz zd=>by obtain⟨i,hi⟩:=yK.1 zd;exact(h4 i z hi).1,λi z hi j y hy=>by obtain⟨v,q1,q2⟩:=(h4 i z hi).2 j y hy;exact⟨v,q1,q2.mono (by rw[<-zj];exact hf) (by omega)⟩⟩)
  rw[zj]at g1 g2;refine fin _ _ _ z6 g1 g2 ?_;have:=VR.sl (w:=w.drew.alloc (.cells cs e)) (I:=I) (m:=upd m S.hp.length (some w.heap.size)) (n:=S.hp.length+1) S.hp.length ei.size 0 (xs.length+ys.length) z7 w.heap.size e (by omega) (Q8 _ _ _)
   (by have:=heap_alloc_new w.drew (.cells cs e);simp only[World.size_drew]at this;simp only[World.shape?,this,h3,x_]) h1 (by omega)
  simpa using this
 have zg:∀y∈ys,y.cells.length=ei.size:=λy hy=>(zw y hy).1;have news:0<ys.length->∃ad,ao=some ad/\∀(q:Nat) (v:Value),(Q0 u ys.length ei.size)[q]?=some v->w.cell? (ad.add q)=some v:=λh0=>by
  obtain⟨ad,e1,c,h1,h2⟩:=hcell h0;have hc:c=ei.size:=by rw[<-h1 _ (zK h0),zg _ (zK h0)]
  subst hc;refine⟨ad,e1,λq v hq=>?_⟩;obtain⟨_,_,q1,q2,q3,rfl⟩:=Um _ _ _ _ _ hq;have:=h2 _ _ q1 q2;rw[<-q3]at this;exact this
 have one:∀v∈Q0 u ys.length ei.size,v.oneCell'=true:=λv hv=>by obtain⟨q,hq⟩:=yK.1 hv;obtain⟨_,_,q1,q2,q3,rfl⟩:=Um _ _ _ _ _ hq;have y4:ys[q / ei.size]?=some ys[q / ei.size]:=zI q1;have yc:=zg _ (zK q1);have zz:(ys[q / ei.size]).cells[q % ei.size]?=some ((ys[q / ei.size]).cells[q % ei.size]'(by omega)):=zI (by omega);exact(zx _ _ y4 _ _ zz).oneCell (zW.1 (zw _ (zK q1)).2 _ (zJ zz))
 have yrel:∀(i:Nat) (z:AV),ys[i]?=some z->∀(j:Nat) (y:AV),z.cells[j]?=some y->(Q0 u ys.length ei.size)[i * ei.size+j]?=some (u i j)/\VR w I m S.hp.length (u i j) y:=λi z zd j y hy=>by have hi:=(zB.1 zd).1;have hj:=(zB.1 hy).1;rw[zg z (zJ zd)]at hj;exact⟨Su _ _ _ _ _ hi hj,zx i z zd j y hy⟩
 have capw:∀zp,xs.length+ys.length<=grownCap w (xs.length+ys.length) zp e/\grownCap w (xs.length+ys.length) zp e<=maxLen:=λzp=>
  ⟨grownCap_ge _ _ _ _,grownCap_le_maxLen w _ zp e (by unfold maxLen;omega)⟩
 have fromNone:a.eval s= .slice none 0 0->xs=[]->WS C.W0 C.I0 w I m H1->wpA P o a w K Q:=λzn y5 zo=>by
  subst y5;rcases vz ys.length with h0|h0
  ·have z8:=wK h0;have z6:=zero z8 none 0 0 (zQ _) zn;obtain⟨g1,g2⟩:=zo.push (Below.refl _ _) none (λb e=>by cases e) (.va e ei.size ([]++ys)) (λm' _ _=> .inl ⟨rfl,by simp[z8]⟩);rw[zj]at g1 g2;refine fin _ _ _ z6 g1 g2 ?_;rw[h0];exact .slnone _ _ (by omega) (Q8 _ _ _)
  obtain⟨ad,rfl,za⟩:=news h0;have z6:=run_append_nil (P:=P) w t o.type e ti ei.zero zi zm tz ad ys.length cap (Q0 u ys.length ei.size) (by rw[Q4,ts]) za h0 (by simp at hlen;omega) (by rw[tb];simp at hbound;omega);obtain⟨c1,c2⟩:=capw 0;simp only[List.length_nil,x_]at c1 c2;refine newrow (grownCap w ys.length 0 e) _ (by simpa using c1) c2 ?_ ?_ (by rw[zn,zl];simpa using z6) zo
  ·have key:∀cs:Array Value,cs.size=ei.size->((Q0 u ys.length ei.size).toArray++Builtin.zeroCells cs (grownCap w ys.length 0 e - ys.length)).size=grownCap w ys.length 0 e * ei.size:=λcs y6=>by
    simp only[wX,xW,Q4,size_zeroCells,y6,<-yO]
    congr 1;omega
   exact key _ hz
  intro i z hi;simp only[List.nil_append]at hi;refine⟨zg z (zJ hi),λj y hy=>?_⟩;obtain⟨q1,q2⟩:=yrel i z hi j y hy;exact⟨_,by rw[y_ (by simpa using(zB.1 q1).1)];simpa using q1,q2⟩
 unfold Aa at hb;split at hb
 ·simp only[Option.some.injEq,Prod.mk.injEq]at hb;obtain⟨rfl,rfl⟩:=hb;exact fromNone zy.nils_inv rfl zc
 ·rename_i id c' len;split at hb
  ·rename_i e' c'' z1 zq;split at hb
   ·rename_i hc;obtain⟨rfl,rfl,rfl,rfl⟩:=hc;simp only[Option.some.injEq,Prod.mk.injEq]at hb;obtain⟨rfl,rfl⟩:=hb;have zb:=zc.kill id;rcases zy.sl_inv with⟨b,cp,t',hb,hn,zt,hl',hmax,zh⟩|⟨hb,hn,_,yd,zh⟩|⟨ad,hn,hlo,_,_⟩
    ·rcases zc.obj id _ zq with⟨e1,_⟩|⟨b',y7,vs,zk,hh,q1,q2,q3,q4,hr⟩
     ·rw[hb]at e1;cases e1
     obtain rfl:b=b':=by rw[hb]at zk;exact Option.some.inj zk
     have y8:cp=y7:=by
      have:w.shape? b=some (e',vs.size):=by simp[World.shape?,hh]
      rw[this]at zt;simp only[Option.some.injEq,Prod.mk.injEq,x_,q3]at zt;exact(Nat.eq_of_mul_eq_mul_right y2 zt.2).symm
     subst y8;simp only[uP]at zh;have xrel:∀(i:Nat) (z:AV),z1[i]?=some z->∀j,j<ei.size->i * ei.size+j<z1.length * ei.size:=λi z hi j hj=>by have:(i+1) * ei.size<=z1.length * ei.size:=yF _ (zB.1 hi).1;rw[yO]at this;omega
     have y9:z1.length * ei.size<=vs.size:=by rw[q3];exact yF _ q1
     have y0:∀(w':World),w'.shape? b=some (e',cp * ei.size)->z1.length+ys.length<=cp->VR w' I (upd m S.hp.length (some b)) (S.hp.length+1) (.slice (some ⟨b,0,none⟩) (z1.length+ys.length) cp) (.sl S.hp.length ei.size 0 (z1.length+ys.length)):=λw' ya hle=>by have:=VR.sl (w:=w') (I:=I) (m:=upd m S.hp.length (some b)) (n:=S.hp.length+1) S.hp.length ei.size 0 (z1.length+ys.length) cp b e' (by omega) (Q8 _ _ _) (by simpa using ya) hle (by omega);simpa using this
     rcases vz ys.length with h0|h0
     ·have z8:=wK h0;have z6:=zero z8 _ _ _ hl' zh;obtain⟨g1,g2⟩:=zc.adopt (w':=w) (o':= .va e' ei.size (z1++ys)) zq rfl hb (World.grownBy.refl _ _) (λ_ h=>h) (λm' hf=> .inr ⟨b,cp,vs,rfl,hh,by simp[z8,q1],q2,q3,by simpa[z8]using q4,λi z hi j y hy=>by obtain⟨v,p1,p2⟩:=hr i z (by simpa[z8]using hi) j y hy;exact⟨v,p1,p2.mono hf (ug _)⟩⟩);refine fin _ _ _ z6 g1 g2 ?_;have:=y0 w (by simp[World.shape?,hh,q3]) (by omega);rw[h0]at this |-;exact this
     obtain⟨ad,rfl,za⟩:=news h0;by_cases hroom:z1.length+ys.length<=cp
     ·have ze:z1.length * ti.size+(Q0 u ys.length ei.size).length<=vs.size:=by rw[Q4,ts,q3,<-yO];exact yF _ hroom
      have z6:=run_append_room (P:=P) w t o.type e' ti zi zm b z1.length cp vs hh ad ys.length cap (Q0 u ys.length ei.size) (by rw[Q4,ts]) za one hroom ze;rw[ts]at z6 ze;have zu:(vs.toList.take (z1.length * ei.size)++Q0 u ys.length ei.size++vs.toList.drop (z1.length * ei.size+(Q0 u ys.length ei.size).length)).toArray=spl vs (z1.length * ei.size) (Q0 u ys.length ei.size).toArray:=by simp[spl]
      rw[zu]at z6;have y1:z1.length * ei.size+(Q0 u ys.length ei.size).toArray.size<=vs.size:=by simpa using ze
      have zf:=Us vs (z1.length * ei.size) (Q0 u ys.length ei.size).toArray y1;obtain⟨g1,g2⟩:=zc.adopt (o':= .va e' ei.size (z1++ys)) zq rfl hb (Rt w b (spl vs (z1.length * ei.size) (Q0 u ys.length ei.size).toArray)) (Tx hh zf)
       (λm' hf=> .inr ⟨b,cp,_,rfl,setRow_heap w b vs _ e' _ hh,by simpa using hroom,q2,by rw[zf,q3],λz zd=>by
         rcases zV.1 zd with h1|h1
         ·exact q4 z h1
         ·exact zg z h1,λi z hi j y hy=>by
         rw[Hz _ _ _ _ y1];by_cases hix:i<z1.length
         ·rw[zF hix]at hi;have hj:j<ei.size:=by have:=(zB.1 hy).1;rw[q4 z (zJ hi)]at this;exact this
          have:=xrel i z hi j hj;rw[if_neg (by omega)];obtain⟨v,p1,p2⟩:=hr i z hi j y hy;exact⟨v,p1,p2.mono hf (ug _)⟩
         rw[zH (by omega)]at hi;obtain⟨p1,p2⟩:=yrel _ z hi j y hy;have p3:=(zB.1 p1).1;have p4:i * ei.size=z1.length * ei.size+(i - z1.length) * ei.size:=by rw[<-yO];congr 1;omega
         rw[if_pos (by simp only[xW];omega)];exact⟨_,by rw[show i * ei.size+j - z1.length * ei.size=(i - z1.length) * ei.size+j by omega];simpa using p1,p2.mono hf (ug _)⟩⟩)
      refine fin _ _ _ (by rw[zh,zl];exact z6) g1 g2 (y0 _ ?_ hroom);simp[World.shape?,setRow_heap w b vs _ e' _ hh,zf,q3]
     have holds:∀(j:Nat) (v:Value),(vs.toList.take (z1.length * ei.size))[j]?=some v->w.cell? ((⟨b,0,none⟩:Addr).add j)=some v:=λj v hj=>by
      rw[Addr.add_lit,x_,cell_of_row w b j vs e' (0,0) hh];rw[xR]at hj;split at hj
      ·simpa using hj
      cases hj
     have z6:=run_append_grow (P:=P) w t o.type e' ti ei.zero zi zm tz ⟨b,0,none⟩ z1.length cp (vs.toList.take (z1.length * ei.size)) (by rw[ts];simp;omega) holds ad ys.length cap (Q0 u ys.length ei.size) (by rw[Q4,ts]) za (by omega) (by omega)
      (growslice_fits (by omega) (by rw[tb];exact hbound))
     obtain⟨c1,c2⟩:=capw cp;refine newrow _ _ c1 c2 ?_ ?_ (by rw[zh,zl];exact z6) zb
     ·have:(vs.toList.take (z1.length * ei.size)).length=z1.length * ei.size:=by simp;omega
      simp only[wX,xW,Q4,size_zeroCells,hz,this,<-yO]
      congr 1;omega
     intro i z hi;have zv:(vs.toList.take (z1.length * ei.size)).length=z1.length * ei.size:=by simp;omega
     by_cases hix:i<z1.length
     ·rw[zF hix]at hi;refine⟨q4 z (zJ hi),λj y hy=>?_⟩;have hj:j<ei.size:=by have:=(zB.1 hy).1;rw[q4 z (zJ hi)]at this;exact this
      have yb:=xrel i z hi j hj;obtain⟨v,p1,p2⟩:=hr i z hi j y hy;refine⟨v,?_,p2⟩;rw[y_ (by simp;omega),y_ (by simp;omega),List.getElem?_toArray,xR,if_pos yb];simpa using p1
     rw[zH (by omega)]at hi;refine⟨zg z (zJ hi),λj y hy=>?_⟩;obtain⟨p1,p2⟩:=yrel _ z hi j y hy;have p3:=(zB.1 p1).1;have p4:i * ei.size=z1.length * ei.size+(i - z1.length) * ei.size:=by rw[<-yO];congr 1;omega
     refine⟨_,?_,p2⟩;rw[y_ (by simp only[wX,xW,zv];omega),u6 (by simp only[xW,zv];omega)];simp only[xW,zv];rw[show i * ei.size+j - z1.length * ei.size=(i - z1.length) * ei.size+j by omega];simpa using p1
    ·rcases zc.obj id _ zq with⟨_,e1⟩|⟨b',_,_,zk,_⟩
     ·exact fromNone zh e1 zb
     rw[hb]at zk;cases zk
    omega
   cases hb
  cases hb
 cases hb
end
end
section
open Go.RowKit
section
variable {P:Program} [Env P] {T:TT} {nt k:Nat} {S:AS} {ops:Array Oper} {o:Oper} {R:AS->Prop}
def Lt (hT:TOk P T) (hw:Qt ops S o=some true) {s x:Operand} {t e:TypeId} (ho:o.op= .call ⟨.builtin .append,#[s,x],#[t,t]⟩) {it ei:TI} (ht:look T t=some it) (hit:it.desc= .slice e) (he:look T e=some ei)
  (hz:ei.zero.cells.size=ei.size) (z1:0<ei.size) (z6:0<ei.bytes) {sv xv:AV} (hs:rho S.sl s=some sv) (hx:rho S.sl x=some xv) (hd:Wq nt o=true)
  (hR:match Aa S e ei.size sv,Vh S.hp xv with
   |some (xs,H1),some ys=>Wf ei xs ys/\R (({ S with hp:=H1++[.va e ei.size (xs++ys)] }:AS).putD o.dst (.sl S.hp.length ei.size 0 (xs.length+ys.length)))
   |_,_=>False):Wb P nt k true ops o S R:=by
 cases hb:Aa S e ei.size sv with
 |none=>rw[hb]at hR;exact hR.elim
 |some p=>
  obtain⟨xs,H1⟩:=p;cases hy:Vh S.hp xv with
  |none=>rw[hb,hy]at hR;exact hR.elim
  |some ys=>rw[hb,hy]at hR;obtain⟨⟨h1,h2⟩,h3⟩:=hR;refine X0 hT hw ho ht hit he hz z1 hs hx hb hy h1 h2 ?_ hd h3;have:=Nat.le_mul_of_pos_right (xs.length+ys.length) z6;omega
def WS.swap{W0 w:World}{I0 I:Nat->Prop}{m:Nat->Option Nat}{H:List AObj}(h:WS W0 I0 w I m H){i:Nat}{o o':AObj}(hi:H[i]?=some o)(hl:o.live=true)(hO:U4 w I m H.length (m i) o'):WS W0 I0 w I m (H.set i o'):=by
 have z6:∀(k:Nat) (p:AObj),(H.set i o')[k]?=some p->(k=i/\p=o')\/(k≠i/\H[k]?=some p):=λk p hp=>by
  by_cases hk:k=i
  ·subst hk;rw[zL (zB.1 hi).1]at hp;exact .inl ⟨rfl,(Option.some.inj hp).symm⟩
  rw[zE (by omega)]at hp;exact .inr ⟨hk,hp⟩
 have z1:∀(k:Nat) (p:AObj),(H.set i o')[k]?=some p->p.live=true->∃q,H[k]?=some q/\q.live=true:=λk p hp lp=>by
  rcases z6 k p hp with⟨rfl,rfl⟩|⟨_,h2⟩
  ·exact⟨o,hi,hl⟩
  exact⟨p,h2,lp⟩
 refine⟨h.below,h.i0,h.iw,λk p hp=>?_,λk p c hp lp mc=>?_,λa b oa ob c ha hb la lb ma mb=>?_⟩
 ·rw[List.length_set];rcases z6 k p hp with⟨rfl,rfl⟩|⟨_,h2⟩
  ·exact hO
  exact h.obj k p h2
 ·obtain⟨q,hq,lq⟩:=z1 k p hp lp;exact h.own k q c hq lq mc
 obtain⟨qa,h1,h2⟩:=z1 a oa ha la;obtain⟨qb,h3,h4⟩:=z1 b ob hb lb;exact h.inj a b qa qb c h1 h3 h2 h4 ma mb
variable {Q:Exit->AS->Prop}
def St.swap{C:Cx P}{a:Act}{w:World}{sl:List (Nat×AV)}{H:List AObj}(hs:St C nt k ⟨sl,H⟩ a w){i:Nat}{o o':AObj}(hi:H[i]?=some o)(hl:o.live=true)(hO:∀I m,U4 w I m H.length (m i) o->U4 w I m H.length (m i) o'):
  St C nt k ⟨sl,H.set i o'⟩ a w:=by
 obtain⟨I,m,hw,z1,hk,hf⟩:=hs;refine⟨I,m,hw.swap hi hl (hO I m (hw.obj i o hi)),⟨z1.1,z1.2.1,λt x hx=>?_⟩,by simpa using hk,hf⟩;obtain⟨v,hv,hr⟩:=z1.2.2 t x hx;exact⟨v,hv,by simpa using hr⟩
def U4.toVa{w:World}{I:Nat->Prop}{m:Nat->Option Nat}{n:Nat}{b? :Option Nat}{e c:Nat}{xs:List AV}(h:U4 w I m n b? (.arr e c xs)):U4 w I m n b? (.va e c xs):=by
 rcases h with h|⟨b,cap,vs,e1,hh,h1,h2,h3,h4,hr⟩
 ·exact .inl h
 exact .inr ⟨b,cap,vs,e1,hh,h1,h2,h3,h4,λi x hx j y hy=>by obtain⟨v,hv,hp⟩:=hr i x hx j y hy;exact⟨v,hv,.pure hp⟩⟩
def U4.toArr{w:World}{I:Nat->Prop}{m:Nat->Option Nat}{n:Nat}{b? :Option Nat}{e c:Nat}{xs:List AV}(hp:xs.all (λx=>x.cells.all AV.pure)=true)(h:U4 w I m n b? (.va e c xs)):U4 w I m n b? (.arr e c xs):=by
 simp only[zW]at hp;rcases h with h|⟨b,cap,vs,e1,hh,h1,h2,h3,h4,hr⟩
 ·exact .inl h
 exact .inr ⟨b,cap,vs,e1,hh,h1,h2,h3,h4,λi x hx j y hy=>by obtain⟨v,hv,hq⟩:=hr i x hx j y hy;exact⟨v,hv,hq.toPure (hp x (zJ hx) y (zJ hy))⟩⟩
def Hg{cd:Code}{sl:List (Nat×AV)}{H:List AObj}(i:Nat){e c:Nat}{xs:List AV}(hi:H[i]?=some (.arr e c xs))(h:AWP P nt k cd Q ⟨sl,H.set i (.va e c xs)⟩):AWP P nt k cd Q ⟨sl,H⟩:=
 λC a w hs=>h C a w (hs.swap hi rfl (λ_ _=>U4.toVa))
def Pq{cd:Code}{sl:List (Nat×AV)}{H:List AObj}(i:Nat){e c:Nat}{xs:List AV}(hi:H[i]?=some (.va e c xs))(hp:xs.all (λx=>x.cells.all AV.pure)=true)(h:AWP P nt k cd Q ⟨sl,H.set i (.arr e c xs)⟩):AWP P nt k cd Q ⟨sl,H⟩:=
 λC a w hs=>h C a w (hs.swap hi rfl (λ_ _=>U4.toArr hp))
def St.freezeO{C:Cx P}{a:Act}{w:World}{sl:List (Nat×AV)}{H:List AObj}(hs:St C nt k ⟨sl,H⟩ a w)(i:Nat){e c:Nat}{xs:List AV}(hi:H[i]?=some (.arr e c xs))(t:Nat){o0:AObj}(ht:H[t]?=some o0)(za:t≠i)(hlo:o0.live=true):
  St C nt k ⟨sl.map λp=>(p.1,p.2.fz i c xs),(H.set i .dead).set t (o0.fz i c xs)⟩ a w:=by
 obtain⟨I,m,hw,z7,hk,hf⟩:=hs;have zc:t<H.length:=(zB.1 ht).1;have z8:Ext w w I (λb=>I b\/m i=some b):=⟨λ_ h=> .inl h,λ_ _=>rfl⟩
 have z6:Fut H.length w I m w (λb=>I b\/m i=some b) m:=⟨z8,λ_ _=>rfl,λ_ _ h=>h⟩
 have hlen:((H.set i .dead).set t (o0.fz i c xs)).length=H.length:=by simp
 have z1:∀(id:Nat) (o:AObj),((H.set i .dead).set t (o0.fz i c xs))[id]?=some o->o.live=true->id≠i/\∃o',H[id]?=some o'/\o'.live=true:=λid o ho hl=>by
  by_cases hid:id=i
  ·subst hid;rw[zE za,zL (zB.1 hi).1]at ho;cases ho;simp[AObj.live]at hl
  by_cases hit:id=t
  ·subst hit;exact⟨hid,_,ht,hlo⟩
  rw[zE (by omega),zE (by omega)]at ho;exact⟨hid,_,ho,hl⟩
 refine⟨λb=>I b\/m i=some b,m,⟨hw.below,λb hb=> .inl (hw.i0 b hb),λb hb=>?_,λid o ho=>?_,λid o b ho hl hm=>?_,λa b oa ob d ha hb la lb ma mb=>?_⟩,⟨z7.1,z7.2.1,λt x hx=>?_⟩,by rw[hlen];exact hk,hf.trans hk z6⟩
 ·rcases hb with hb|hb
  ·exact hw.iw b hb
  have:=hw.own i _ b hi rfl hb;exact⟨this.2.2,.inr this.1⟩
 ·rw[hlen];by_cases hid:id=i
  ·subst hid;rw[zE za,zL (zB.1 hi).1]at ho;cases ho;trivial
  by_cases hit:id=t
  ·subst hit;rw[zL (by simpa using zc)]at ho;cases ho;exact(hw.obj id _ ht).fz hw hi
  rw[zE (by omega),zE (by omega)]at ho;exact U4.mono (hw.obj id o ho) z6 (zQ _) (λ_ _ _=>rfl)
 ·obtain⟨zd,o',zb,hl'⟩:=z1 id o ho hl;have h1:=hw.own id o' b zb hl' hm;refine⟨h1.1,λhc=>?_,h1.2.2⟩;rcases hc with hc|hc
  ·exact h1.2.1 hc
  exact zd (hw.inj id i o' _ b zb hi hl' rfl hm hc)
 ·obtain⟨_,ze,zf,zg⟩:=z1 a oa ha la;obtain⟨_,zh,zi,zj⟩:=z1 b ob hb lb;exact hw.inj a b ze zh d zf zi zg zj ma mb
 rw[hlen];have:=Fj hx;obtain⟨y,hy,rfl⟩:=this;obtain⟨v,hv,hr⟩:=z7.2.2 t y hy;exact⟨v,hv,hr.fz hw hi⟩
def I7{cd:Code}{sl:List (Nat×AV)}{H:List AObj}(i:Nat){e c:Nat}{xs:List AV}(hi:H[i]?=some (.arr e c xs))(t:Nat){o0:AObj}(ht:H[t]?=some o0)(z1:t≠i)(hlo:o0.live=true)(h:AWP P nt k cd Q ⟨sl.map λp=>(p.1,p.2.fz i c xs),(H.set i .dead).set t (o0.fz i c xs)⟩):AWP P nt k cd Q ⟨sl,H⟩:=
 λC a w hs=>h C a w (hs.freezeO i hi t ht z1 hlo)
def C8{wr:Bool}{sl:List (Nat×AV)}{H:List AObj}(i:Nat){e c:Nat}{xs:List AV}(hi:H[i]?=some (.arr e c xs))(t:Nat){o0:AObj}(ht:H[t]?=some o0)(z1:t≠i)(hlo:o0.live=true)(h:Wb P nt k wr ops o ⟨sl.map λp=>(p.1,p.2.fz i c xs),(H.set i .dead).set t (o0.fz i c xs)⟩ R):Wb P nt k wr ops o ⟨sl,H⟩ R:=
 λC a w K Q hs=>h C a w K Q (hs.freezeO i hi t ht z1 hlo)
end
end
section
open Go.RowKit
def U4.nrmArr{w:World}{I:Nat->Prop}{m:Nat->Option Nat}{n:Nat}{b? :Option Nat}{e c:Nat}{xs:List AV}(h:U4 w I m n b? (.arr e c xs)):U4 w I m n b? (.arr e c (xs.map AV.nrm)):=by
 rcases h with⟨h,rfl⟩|⟨b,cap,vs,e1,hh,h1,h2,h3,h4,hr⟩
 ·exact .inl ⟨h,rfl⟩
 refine .inr ⟨b,cap,vs,e1,hh,by simpa using h1,h2,h3,λx hx=>?_,λi x hx j y hy=>?_⟩
 ·obtain⟨x',z1,rfl⟩:=zO.1 hx;rw[(Md x').1];exact h4 x' z1
 rw[zU]at hx;obtain⟨x',z1,rfl⟩:=zS.1 hx;obtain⟨y',k1,k2⟩:=(Md x').2 j y hy;obtain⟨v,hv,hp⟩:=hr i x' z1 j y' k1;exact⟨v,hv,k2 _ _ _ hp⟩
section
variable {P:Program} [Env P] {T:TT} {nt k:Nat} {S:AS} {ops:Array Oper} {o:Oper} {R:AS->Prop} {Q:Exit->AS->Prop}
def k0t{cd:Code}{sl:List (Nat×AV)}{H:List AObj}(i:Nat){e c:Nat}{xs:List AV}(hi:H[i]?=some (.arr e c xs))(h:AWP P nt k cd Q ⟨sl,H.set i (.arr e c (xs.map AV.nrm))⟩):AWP P nt k cd Q ⟨sl,H⟩:=
 λC a w hs=>h C a w (hs.swap hi rfl (λ_ _=>U4.nrmArr))
def Dw {cd:Code} {sl:List (Nat×AV)} {H:List AObj} (i j e sz:Nat) {e':TypeId} {xs:List AV} (hi:H[i]?=some (.va e' 1 xs)) (hj:xs[j]?=some .nils)
  (h:AWP P nt k cd Q ⟨sl,(H++[AObj.arr e sz []]).set i (.va e' 1 (xs.set j (.sl H.length sz 0 0)))⟩):AWP P nt k cd Q ⟨sl,H⟩:=λC a w hs=>by
 obtain⟨I,m,hw,z1,hk,hf⟩:=hs;obtain⟨g1,g2⟩:=hw.push (Below.refl _ _) none (λb e=>by cases e) (.arr e sz []) (λm' _ _=> .inl ⟨rfl,rfl⟩);have z7:i<H.length:=(zB.1 hi).1;have z6:(H++[AObj.arr e sz []])[i]?=some (.va e' 1 xs):=by rw[zF z7];exact hi
 have hO:U4 w I (upd m H.length none) (H++[AObj.arr e sz []]).length (upd m H.length none i) (.va e' 1 (xs.set j (.sl H.length sz 0 0))):=by
  rcases g1.obj i _ z6 with⟨_,rfl⟩|⟨b,cap,vs,e1,hh,h1,h2,h3,h4,hr⟩
  ·simp at hj
  refine .inr ⟨b,cap,vs,e1,hh,by simpa using h1,h2,h3,λx hx=>?_,λq x hx t y hy=>?_⟩
  ·rcases List.mem_or_eq_of_mem_set hx with hx|rfl
   ·exact h4 x hx
   rfl
  by_cases hq:j=q
  ·subst hq;rw[zL (zB.1 hj).1]at hx;cases hx;cases t with
   |zero=>simp only[AV.cells,List.getElem?_cons_zero,Option.some.injEq]at hy;subst hy;obtain⟨v,hv,hp⟩:=hr j _ hj 0 .nils rfl;have:=hp.nils_inv;subst this;exact⟨_,hv,.slnone H.length sz (by simp) (Q8 ..)⟩
   |succ t=>simp[AV.cells]at hy
  rw[zE hq]at hx;exact hr q x hx t y hy
 have g3:=g1.swap z6 rfl hO;have hlen:((H++[AObj.arr e sz []]).set i (.va e' 1 (xs.set j (.sl H.length sz 0 0)))).length=H.length+1:=by simp
 refine h C a w ⟨I,upd m H.length none,g3,⟨z1.1,z1.2.1,λs x hx=>?_⟩,by simp at hk |-;omega,hf.trans hk g2⟩;obtain⟨v,hv,z8⟩:=z1.2.2 s x hx;refine⟨v,hv,?_⟩;have:=z8.mono (n':=H.length+1) g2 (by simp);rw[hlen];exact this
end
end
section
section
variable {P:Program} [Env P] {T:TT} {nt k:Nat} {S:AS}
def Bl (hT:TOk P T) (hm:P.follows .mixedOrders=true) {Q Q':Exit->AS->Prop} {id:Nat} {l:List Oper} {next:Code} (Wr:List Nat) (p:PlanM) (Ph:AS->Prop) (hd:Uu nt l=true)
  (hp:(Region.noSelect l.toArray && p.size==l.length && Y9 l.toArray (Ij l []) Wr p (u4 l.length false))=true)
  (h:Ip P T nt k l.toArray Wr.contains Ph p S) (hn:∀S',Ph S'->AWP P nt k next Q S'):AWP P nt k (.region id l.toArray true) (Se (AWP P nt k next Q) Q') S:=
 (Sw (Q:=λe S=>e= .normal/\Ph S) hT hm Wr p hd hp (Ei (λ_ h=>⟨rfl,h⟩) p S h)).mono λe S ⟨he,hr⟩=>by subst he;exact hn S hr
def Wh{cd:Code}{Q:Exit->AS->Prop}{sl:List (Nat×AV)}{H:List AObj}(h:∀Z,Z=H->AWP P nt k cd Q ⟨sl,Z⟩):AWP P nt k cd Q ⟨sl,H⟩:=h H rfl
def J2{wr:Bool}{ops:Array Oper}{o:Oper}{R:AS->Prop}{sl:List (Nat×AV)}{H:List AObj}(h:∀Z,Z=H->Wb P nt k wr ops o ⟨sl,Z⟩ R):Wb P nt k wr ops o ⟨sl,H⟩ R:=h H rfl
end
end
section
open Go.RowKit Go.Maps
section
variable {P:Program} [Env P] {T:TT} {nt k:Nat} {S:AS} {ops:Array Oper} {o:Oper} {R:AS->Prop} {Q:Exit->AS->Prop}
def WS.still{W0 w:World}{I0 I:Nat->Prop}{m:Nat->Option Nat}{H:List AObj}(hw:WS W0 I0 w I m H){i:Nat}{o:AObj}(hi:H[i]?=some o)(z8:o.live=true):
  WS W0 I0 w (λb=>I b\/m i=some b) m (H.set i .dead)/\Fut H.length w I m w (λb=>I b\/m i=some b) m:=by
 have z7:Ext w w I (λb=>I b\/m i=some b):=⟨λ_ h=> .inl h,λ_ _=>rfl⟩
 have z6:Fut H.length w I m w (λb=>I b\/m i=some b) m:=⟨z7,λ_ _=>rfl,λ_ _ h=>h⟩
 have hlen:(H.set i .dead).length=H.length:=by simp
 have z1:∀(id:Nat) (o:AObj),(H.set i .dead)[id]?=some o->o.live=true->id≠i/\H[id]?=some o:=λid o ho hl=>by
  by_cases hid:id=i
  ·subst hid;rw[zL (zB.1 hi).1]at ho;cases ho;simp[AObj.live]at hl
  rw[zE (by omega)]at ho;exact⟨hid,ho⟩
 refine⟨⟨hw.below,λb hb=> .inl (hw.i0 b hb),λb hb=>?_,λid o ho=>?_,λid o b ho hl hm=>?_,λa b oa ob d ha hb la lb ma mb=>?_⟩,z6⟩
 ·rcases hb with hb|hb
  ·exact hw.iw b hb
  have:=hw.own i _ b hi z8 hb;exact⟨this.2.2,.inr this.1⟩
 ·rw[hlen];by_cases hid:id=i
  ·subst hid;rw[zL (zB.1 hi).1]at ho;cases ho;trivial
  rw[zE (by omega)]at ho;exact U4.mono (hw.obj id o ho) z6 (zQ _) (λ_ _ _=>rfl)
 ·obtain⟨zb,za⟩:=z1 id o ho hl;have h1:=hw.own id o b za hl hm;refine⟨h1.1,λhc=>?_,h1.2.2⟩;rcases hc with hc|hc
  ·exact h1.2.1 hc
  exact zb (hw.inj id i o _ b za hi hl z8 hm hc)
 obtain⟨_,zc⟩:=z1 a oa ha la;obtain⟨_,zd⟩:=z1 b ob hb lb;exact hw.inj a b oa ob d zc zd la lb ma mb
def j01{es:Array MapEntry}{seen:Array Nat}{e:MapEntry}(h:e∈(leftOf es seen).toList):e∈es.toList:=by unfold leftOf at h;simp at h;simpa using h.1
def Ag(es:Array MapEntry):leftOf es #[]=es:=by unfold leftOf;exact Array.filter_eq_self.2 (λx _=>by simp)
def Gp:∀(L:List MapEntry) (j:Nat) (e:MapEntry),(L.map (·.born)).Nodup->L[j]?=some e->L.filter (λx=> !(x.born==e.born))=L.eraseIdx j
 |[],j,e,_,h=>by simp at h
 |x::L,0,e,hn,h=>by simp at h;subst h;simp only[xA,uT]at hn;rw[List.eraseIdx_cons_zero,tG,if_neg (by simp)];refine List.filter_eq_self.2 (λy hy=>?_);have:y.born≠x.born:=λh=>hn.1 (by rw[<-h];exact ur hy);simpa using this
 |x::L,j+1,e,hn,h=>by simp at h;simp only[xA,uT]at hn;have z1:x.born≠e.born:=λh'=>hn.1 (by rw[h'];exact ur (zJ h));rw[List.eraseIdx_cons_succ,tG,if_pos (by simpa using z1),Gp L j e hn.2 h]
def w0y(es:Array MapEntry)(seen:Array Nat)(hn:(es.toList.map (·.born)).Nodup){j:Nat}{e:MapEntry}(h:(leftOf es seen)[j]?=some e):(leftOf es (seen.push e.born)).toList=(leftOf es seen).toList.eraseIdx j:=by
 have h1:(leftOf es seen).toList=es.toList.filter (λx=> !seen.contains x.born):=by simp[leftOf]
 have h2:(leftOf es (seen.push e.born)).toList=es.toList.filter (λx=> !(seen.push e.born).contains x.born):=by simp[leftOf]
 have z1:((leftOf es seen).toList.map (·.born)).Nodup:=by rw[h1];exact hn.sublist ((List.filter_sublist (p:=λx:MapEntry=> !seen.contains x.born) (l:=es.toList)).map _)
 rw[<-Gp _ j e z1 (by rw[ww];exact h),h1,h2,List.filter_filter]
 congr 1
 funext x;rw[contains_push];cases seen.contains x.born<;>cases(x.born==e.born)<;>rfl
def A3 (hT:TOk P T) {wr:Bool} (hw:Qt ops S o=some true) (hd:Wq nt o=true) {t kt et:TypeId} {x:Operand} (ho:o.op= .range t x) {it:TI} (ht:look T t=some it) (hit:it.desc= .map kt et)
  {id:Nat} (hx:rho S.sl x=some (.mref id)) {kvs:List (AV×AV)} (z6:S.hp[id]?=some (.mp kvs))
  (hR:R (({ S with hp:=S.hp.set id .dead++[.it kvs none] }:AS).putD o.dst (.vptr S.hp.length 0))):Wb P nt k wr ops o S R:=λC a w K' Q hst hK=>by
 unfold OpW;rw[if_pos (hst.wanted hw)];obtain⟨I,m,z7,zb,hk,hE⟩:=hst;have zc:=hT.und ht;rw[hit]at zc;obtain⟨b,hb,_,ze⟩:=(Qr zb hx).mref_inv;obtain⟨b',es,ck,zd,hh,hz,hr⟩:=z7.obj id _ z6;obtain rfl:b=b':=by rw[hb]at zd;exact Option.some.inj zd
 have z8:=run_range_map (P:=P) w t kt et b es ck zc hh;have hex:(execOp a.eval o).run P w= .ok (.value (.pointer (some ⟨w.heap.size,0,none⟩))) (w.alloc (.mapIter (some b) ck #[] ck)):=by simp[execOp,ho,ze,z8]
 obtain⟨s1,s2⟩:=z7.still z6 rfl;have za:Below w.heap.size w (w.alloc (.mapIter (some b) ck #[] ck)):=(Below.refl _ _).alloc (zQ _) _;have z1:(w.alloc (.mapIter (some b) ck #[] ck)).heap[w.heap.size]?=some (.mapIter (some b) ck #[] ck):=heap_alloc_new w _;have zf:b<w.heap.size:=(z7.own id _ b z6 rfl hb).2.2;have hold:(w.alloc (.mapIter (some b) ck #[] ck)).heap[b]?=some (.map es ck):=by rw[za.block b zf];exact hh
 obtain⟨g1,g2⟩:=s1.push za (some w.heap.size) (λc e=>by injection e with e;subst e;exact⟨zQ _,(yQ.1 z1).1⟩) (.it kvs none) (λm' hf hm=>⟨w.heap.size,b,es,ck,ck,#[],ck,rfl,z1,.inr hb,hold,hz.born,zQ _,zQ _,hz.nodup,by rw[Ag];exact hz.size,
  λi e p he hp=>by rw[Ag]at he;exact⟨((hr i e p he hp).1.mono s2.ext).mono hf.ext,((hr i e p he hp).2.mono s2.ext).mono hf.ext⟩,λp hp=>by cases hp⟩)
 unfold wpA;rw[hex];have hl:(S.hp.set id .dead).length=S.hp.length:=by simp
 rw[hl]at g1 g2;refine hK _ _ _ hR (St.value zb hk hE g1 (s2.trans (zQ _) g2) (by simp) (Qo hd) (.vptr _ _ _ (by simp) (Q8 _ _ _))) (λ_=>Tl.of_below za)
def P1 (hw:Qt ops S o=some true) (hd:Wq nt o=true) {x:Operand} (ho:o.op= .next x false) {id:Nat} (hx:rho S.sl x=some (.vptr id 0)) {left:List (AV×AV)} {cur:Option (AV×AV)} (zh:S.hp[id]?=some (.it left cur))
  (zl:left=[]->R (S.putD o.dst (.tup [.bool false])))
  (zm:∀(j:Nat) (p:AV×AV),left[j]?=some p->R (({ S with hp:=S.hp.set id (.it (left.eraseIdx j) (some p)) }:AS).putD o.dst (.tup [.bool true,p.1,p.2]))):Wb P nt k true ops o S R:=λC a w K' Q hst hK=>by
 unfold OpW;rw[if_pos (hst.wanted hw)];obtain⟨I,m,zb,zc,hk,hE⟩:=hst;obtain⟨r,hb,_,zi⟩:=(Qr zc hx).vptr_inv;obtain⟨r',bm,es,ck,since,seen,c0,zj,hh,hI,hm,h1,h2,h3,h4,h5,hr,zu⟩:=zb.obj id _ zh;obtain rfl:r=r':=by rw[hb]at zj;exact Option.some.inj zj
 unfold wpA;rcases run_next_at (P:=P) w o.type r bm since c0 seen es ck hh hm h1 h2 with⟨hz,z7⟩|⟨e,he,w1,zd,z7⟩
 ·have hl:left=[]:=wK (by rw[<-h5];exact hz);have hex:(execOp a.eval o).run P w= .ok (.value (.tuple #[.bool false])) w:=by simp[execOp,ho,zi,z7]
  rw[hex];refine hK _ _ _ (zl hl) (St.value zc hk hE zb (Fut.refl _ _ _ _) (zQ _) (Qo hd) (.pure (.tup _ _ rfl (λi v x hv hx=>?_)))) (λe=>by cases e);cases i with
  |zero=>simp at hv hx;subst hv;subst hx;exact .bool _
  |succ i=>simp at hx
 obtain⟨j,hj,rfl⟩:=yY he;have zn:j<(leftOf es seen).size:=by simpa using hj
 have ze:(leftOf es seen)[j]?=some ((leftOf es seen).toList[j]):=by simp[zn]
 generalize (leftOf es seen).toList[j]=e at *
 obtain⟨p,hp⟩:∃p,left[j]?=some p:=⟨left[j]'(by omega),by simp⟩
 have zv:es.toList.Nodup\/True:= .inr trivial;have zo:w1.heap[r]?=some (.mapIter (some bm) since seen c0):=by rcases zd with rfl|rfl<;>exact hh
 have zp:w1.heap[bm]?=some (.map es ck):=by rcases zd with rfl|rfl<;>exact hm
 have z8:=MapKept.heap_set (o':= .mapIter (some bm) since (seen.push e.born) ck) zo;have zq:bm≠r:=λh=>by rw[h,hh]at hm;cases hm
 have zr:(ChangeMaps.setBlock w1 r (.mapIter (some bm) since (seen.push e.born) ck)).heap[bm]?=some (.map es ck):=(z8.2 bm zq).trans zp;have hg:w.grownBy (ChangeMaps.setBlock w1 r (.mapIter (some bm) since (seen.push e.born) ck)) (some r):=by rcases zd with rfl|rfl<;>exact⟨rfl,rfl,rfl,by simp[ChangeMaps.setBlock],λi _ hi=>z8.2 i (λe1=>hi (by rw[e1]))⟩
 have z1:w.shape? r=none:=by simp[World.shape?,hh]
 have z6:=w0y es seen h4 ze;have zt:(leftOf es (seen.push e.born)).size=(left.eraseIdx j).length:=by have:=congrArg List.length z6;rw[wO,uA,wO]at this;rw[this,uA,h5]
 have zk:∀(i:Nat) (x:MapEntry) (q:AV×AV),(leftOf es (seen.push e.born))[i]?=some x->(left.eraseIdx j)[i]?=some q->PVR w I x.key q.1/\PVR w I x.val q.2:=by
  intro i x q hx hq;rw[<-ww,z6,uZ]at hx;rw[uZ]at hq;split at hx
  ·rename_i zf;rw[if_pos zf]at hq;exact hr i x q (by rw[<-ww];exact hx) hq
  rename_i zf;rw[if_neg zf]at hq;exact hr (i+1) x q (by rw[<-ww];exact hx) hq
 have za:=hr j e p ze hp;have zg:e∈es.toList:=j01 (Array.mem_toList_iff.2 (ul ze));obtain⟨g1,g2⟩:=zb.set (o':= .it (left.eraseIdx j) (some p)) zh rfl hb hg (λs hs=>by rw[z1]at hs;cases hs) (λm' hf=>⟨r,bm,es,ck,since,seen.push e.born,ck,rfl,z8.1,hI,zr,h1,h3,h3,h4,zt,λi x q hx hq=>⟨(zk i x q hx hq).1.mono hf.ext,(zk i x q hx hq).2.mono hf.ext⟩,λq hq=>by cases hq;exact⟨e,seen,rfl,rfl,zg,za.1.mono hf.ext,za.2.mono hf.ext⟩⟩);have hex:(execOp a.eval o).run P w= .ok (.value (.tuple #[.bool true,e.key,e.val])) (ChangeMaps.setBlock w1 r (.mapIter (some bm) since (seen.push e.born) ck)):=by simp[execOp,ho,zi,z7]
 rw[hex];refine hK _ _ _ (zm j p hp) (St.value zc hk hE g1 g2 (by simp) (Qo hd) (.pure (.tup _ _ rfl (λi v x hv hx=>?_)))) (λe=>by cases e)
 match i,hv,hx with
 |0,hv,hx=>simp at hv hx;subst hv;subst hx;exact .bool _
 |1,hv,hx=>simp at hv hx;subst hv;subst hx;exact za.1.mono g2.ext
 |2,hv,hx=>simp at hv hx;subst hv;subst hx;exact za.2.mono g2.ext
 |i+3,hv,hx=>simp at hx
def Oc {wr:Bool} (hw:Qt ops S o=some true) (hd:Wq nt o=true) {x:Operand} (ho:o.op= .entry x) {id:Nat} (hx:rho S.sl x=some (.vptr id 0)) {left:List (AV×AV)} {p:AV×AV} (za:S.hp[id]?=some (.it left (some p)))
  (hR:R (S.putD o.dst (.tup [p.1,p.2]))):Wb P nt k wr ops o S R:=λC a w K' Q hst hK=>by
 unfold OpW;rw[if_pos (hst.wanted hw)];obtain⟨I,m,z6,z7,hk,hE⟩:=hst;obtain⟨r,hb,_,zb⟩:=(Qr z7 hx).vptr_inv;obtain⟨r',bm,es,ck,since,seen,c0,z8,hh,hI,hm,h1,h2,h3,h4,h5,hr,zc⟩:=z6.obj id _ za;obtain rfl:r=r':=by rw[hb]at z8;exact Option.some.inj z8
 obtain⟨e,sn,rfl,rfl,he,zd,ze⟩:=zc p rfl;unfold wpA;have z1:=run_entry_at (P:=P) w r bm since sn es c0 e hh hm he h4;have hex:(execOp a.eval o).run P w= .ok (.value (.tuple #[e.key,e.val])) w:=by simp[execOp,ho,zb,z1]
 rw[hex];refine hK _ _ _ hR (St.value z7 hk hE z6 (Fut.refl _ _ _ _) (zQ _) (Qo hd) (.pure (.tup _ _ rfl (λi v x hv hx=>?_)))) (λ_=>Tl.refl w)
 match i,hv,hx with
 |0,hv,hx=>simp at hv hx;subst hv;subst hx;exact zd
 |1,hv,hx=>simp at hv hx;subst hv;subst hx;exact ze
 |i+2,hv,hx=>simp at hx
end
end
section
open Go.RowKit Go.Maps
section
variable {P:Program} [Env P] {T:TT} {nt k:Nat} {S:AS} {ops:Array Oper} {o:Oper} {R:AS->Prop} {Q:Exit->AS->Prop}
def U5 (hT:TOk P T) {wr:Bool} (hw:Qt ops S o=some true) (hd:Wq nt o=true) {t kt et:TypeId} {x ix:Operand} (ho:o.op= .lookup t x ix true) {it ei:TI} (ht:look T t=some it) (hit:it.desc= .map kt et) (he:look T et=some ei)
  (K:Keyed P kt) {id:Nat} (hx:rho S.sl x=some (.mref id)) {kx:AV} (zd:rho S.sl ix=some kx) {kvs:List (AV×AV)} (ze:S.hp[id]?=some (.mp kvs)) (zf:isKey P kt kx) (zg:∀p∈kvs,isKey P kt p.1) {z:AV} (hz:z.val=some ei.zero)
  (zh:∀(j:Nat) (p:AV×AV),kvs[j]?=some p->p.1=kx->R (S.putD o.dst (.tup [p.2,.bool true]))) (zi:(∀p∈kvs,p.1≠kx)->R (S.putD o.dst (.tup [z,.bool false]))):Wb P nt k wr ops o S R:=λC a w K' Q hst hK=>by
 unfold OpW;rw[if_pos (hst.wanted hw)];obtain⟨I,m,z7,z6,hk,hE⟩:=hst;have z8:=hT.und ht;rw[hit]at z8;obtain⟨b,hb,_,zb⟩:=(Qr z6 hx).mref_inv;obtain⟨u,lk,hu,za⟩:=zf;have zj:kx.pure=true:=AV.kv_pure hu;have z1:=((Qr z6 zd).toPure zj).kv hu;obtain⟨b',es,ck,zc,hh,zk,hr⟩:=z7.obj id _ ze;have hl:=zk.size;obtain rfl:b=b':=by rw[hb]at zc;exact Option.some.inj zc
 have zl:=hT.zero he w;have two:∀(v:Value) (y:AV) (q:Bool),PVR w I v y->PVR w I (.tuple #[v,.bool q]) (.tup [y,.bool q]):=λv y q h=> .tup _ _ rfl (λi v' x' hv hx=>by
  match i with
  |0=>simp at hv hx;subst hv hx;exact h
  |1=>simp at hv hx;subst hv hx;exact .bool _
  |i+2=>simp at hv)
 unfold wpA;rcases Ob K hl (λi e p a b=>(hr i e p a b).1) hu za zg with⟨h1,h2⟩|⟨j,e,p,h1,h2,h3,h4,h5⟩
 ·have:(execOp a.eval o).run P w= .ok (.value (.tuple #[ei.zero,.bool false])) w:=by simp[execOp,ho,zb,z1,Instr.lookup,run_underlying z8,MapKept.run_getObj_map hh,K.check w _ za,h1,zl,Result.andThen]
  rw[this];refine hK _ _ w (zi h2) (St.value z6 hk hE z7 (Fut.refl _ _ _ _) (zQ _) (Qo hd) (.pure (two _ _ _ ?_))) (λ_=>Tl.refl w);cases z<;>simp[AV.val]at hz<;>rw[<-hz]
  ·exact .bool _
  ·exact .int _ _
  exact .str _
 have:(execOp a.eval o).run P w= .ok (.value (.tuple #[e.val,.bool true])) w:=by simp[execOp,ho,zb,z1,Instr.lookup,run_underlying z8,MapKept.run_getObj_map hh,K.check w _ za,h1,Result.andThen]
 rw[this];exact hK _ _ w (zh j p h3 h4) (St.value z6 hk hE z7 (Fut.refl _ _ _ _) (zQ _) (Qo hd) (.pure (two _ _ _ (hr j e p h2 h3).2))) (λ_=>Tl.refl w)
end
end
section
open Go.RowKit Go.Maps
section
variable {P:Program} [Env P] {T:TT} {nt k:Nat} {S:AS} {ops:Array Oper} {o:Oper} {R:AS->Prop} {Q:Exit->AS->Prop}
def WS.stillM{W0 w:World}{I0 I:Nat->Prop}{m:Nat->Option Nat}{H:List AObj}(hw:WS W0 I0 w I m H){i:Nat}{kvs:List (AV×AV)}(hi:H[i]?=some (.mp kvs)):
  WS W0 I0 w (λb=>I b\/m i=some b) m (H.set i (.fm kvs))/\Fut H.length w I m w (λb=>I b\/m i=some b) m:=by
 obtain⟨s1,s2⟩:=hw.still hi rfl;have z1:∀(id:Nat) (o:AObj),(H.set i (.fm kvs))[id]?=some o->id≠i->(H.set i .dead)[id]?=some o:=λid o ho z6=>by rw[zE (by omega)]at ho |-;exact ho
 have z6:∀(id:Nat) (o:AObj),(H.set i (.fm kvs))[id]?=some o->o.live=true->id≠i:=λid o ho hl hid=>by subst hid;rw[zL (zB.1 hi).1]at ho;cases ho;simp[AObj.live]at hl
 refine⟨⟨s1.below,s1.i0,s1.iw,λid o ho=>?_,λid o b ho hl hm=>s1.own id o b (z1 id o ho (z6 id o ho hl)) hl hm,λa b oa ob d ha hb la lb ma mb=>s1.inj a b oa ob d (z1 a oa ha (z6 a oa ha la)) (z1 b ob hb (z6 b ob hb lb)) la lb ma mb⟩,s2⟩;by_cases hid:id=i
 ·subst hid;rw[zL (zB.1 hi).1]at ho;cases ho;obtain⟨b,es,ck,hb,hh,hz,hr⟩:=hw.obj id _ hi;exact⟨b,es,ck,hb,.inr hb,hh,hz,λj e p a c=>⟨(hr j e p a c).1.mono s2.ext,(hr j e p a c).2.mono s2.ext⟩⟩
 have h1:=s1.obj id o (z1 id o ho hid);have e1:(H.set i (.fm kvs)).length=(H.set i AObj.dead).length:=by simp
 rw[e1];exact h1
def q0n (hT:TOk P T) {wr:Bool} (hw:Qt ops S o=some true) (hd:Wq nt o=true) {t kt et:TypeId} {x:Operand} (ho:o.op= .range t x) {it:TI} (ht:look T t=some it) (hit:it.desc= .map kt et)
  {id:Nat} (hx:rho S.sl x=some (.mref id)) {kvs:List (AV×AV)} (z6:S.hp[id]?=some (.mp kvs))
  (hR:R (({ S with hp:=S.hp.set id (.fm kvs)++[.it kvs none] }:AS).putD o.dst (.vptr S.hp.length 0))):Wb P nt k wr ops o S R:=λC a w K' Q hst hK=>by
 unfold OpW;rw[if_pos (hst.wanted hw)];obtain⟨I,m,z7,zb,hk,hE⟩:=hst;have zc:=hT.und ht;rw[hit]at zc;obtain⟨b,hb,_,ze⟩:=(Qr zb hx).mref_inv;obtain⟨b',es,ck,zd,hh,hz,hr⟩:=z7.obj id _ z6;obtain rfl:b=b':=by rw[hb]at zd;exact Option.some.inj zd
 have z8:=run_range_map (P:=P) w t kt et b es ck zc hh;have hex:(execOp a.eval o).run P w= .ok (.value (.pointer (some ⟨w.heap.size,0,none⟩))) (w.alloc (.mapIter (some b) ck #[] ck)):=by simp[execOp,ho,ze,z8]
 obtain⟨s1,s2⟩:=z7.stillM z6;have za:Below w.heap.size w (w.alloc (.mapIter (some b) ck #[] ck)):=(Below.refl _ _).alloc (zQ _) _;have z1:(w.alloc (.mapIter (some b) ck #[] ck)).heap[w.heap.size]?=some (.mapIter (some b) ck #[] ck):=heap_alloc_new w _;have zf:b<w.heap.size:=(z7.own id _ b z6 rfl hb).2.2;have hold:(w.alloc (.mapIter (some b) ck #[] ck)).heap[b]?=some (.map es ck):=by rw[za.block b zf];exact hh
 obtain⟨g1,g2⟩:=s1.push za (some w.heap.size) (λc e=>by injection e with e;subst e;exact⟨zQ _,(yQ.1 z1).1⟩) (.it kvs none) (λm' hf hm=>⟨w.heap.size,b,es,ck,ck,#[],ck,rfl,z1,.inr hb,hold,hz.born,zQ _,zQ _,hz.nodup,by rw[Ag];exact hz.size,
  λi e p he hp=>by rw[Ag]at he;exact⟨((hr i e p he hp).1.mono s2.ext).mono hf.ext,((hr i e p he hp).2.mono s2.ext).mono hf.ext⟩,λp hp=>by cases hp⟩)
 unfold wpA;rw[hex];have hl:(S.hp.set id (.fm kvs)).length=S.hp.length:=by simp
 rw[hl]at g1 g2;refine hK _ _ _ hR (St.value zb hk hE g1 (s2.trans (zQ _) g2) (by simp) (Qo hd) (.vptr _ _ _ (by simp) (Q8 _ _ _))) (λ_=>Tl.of_below za)
def Vc (hT:TOk P T) {wr:Bool} (hw:Qt ops S o=some true) (hd:Wq nt o=true) {t kt et:TypeId} {x ix:Operand} (ho:o.op= .lookup t x ix false) {it ei:TI} (ht:look T t=some it) (hit:it.desc= .map kt et) (he:look T et=some ei)
  (K:Keyed P kt) {id:Nat} (hx:rho S.sl x=some (.mref id)) {kx:AV} (zd:rho S.sl ix=some kx) {kvs:List (AV×AV)} (ze:S.hp[id]?=some (.fm kvs)) (zf:isKey P kt kx) (zg:∀p∈kvs,isKey P kt p.1) {z:AV} (hz:z.val=some ei.zero)
  (zh:∀(j:Nat) (p:AV×AV),kvs[j]?=some p->p.1=kx->R (S.putD o.dst p.2)) (zi:(∀p∈kvs,p.1≠kx)->R (S.putD o.dst z)):Wb P nt k wr ops o S R:=λC a w K' Q hst hK=>by
 unfold OpW;rw[if_pos (hst.wanted hw)];obtain⟨I,m,z7,z6,hk,hE⟩:=hst;have z8:=hT.und ht;rw[hit]at z8;obtain⟨b,hb,_,zb⟩:=(Qr z6 hx).mref_inv;obtain⟨u,lk,hu,za⟩:=zf;have zj:kx.pure=true:=AV.kv_pure hu;have z1:=((Qr z6 zd).toPure zj).kv hu;obtain⟨b',es,ck,zc,_,hh,zk,hr⟩:=z7.obj id _ ze;have hl:=zk.size;obtain rfl:b=b':=by rw[hb]at zc;exact Option.some.inj zc
 have zl:=hT.zero he w;unfold wpA;rcases Ob K hl (λi e p a b=>(hr i e p a b).1) hu za zg with⟨h1,h2⟩|⟨j,e,p,h1,h2,h3,h4,h5⟩
 ·have:(execOp a.eval o).run P w= .ok (.value ei.zero) w:=by simp[execOp,ho,zb,z1,Instr.lookup,run_underlying z8,MapKept.run_getObj_map hh,K.check w _ za,h1,zl,Result.andThen]
  rw[this];refine hK _ _ w (zi h2) (St.value z6 hk hE z7 (Fut.refl _ _ _ _) (zQ _) (Qo hd) (.pure ?_)) (λ_=>Tl.refl w);cases z<;>simp[AV.val]at hz<;>rw[<-hz]
  ·exact .bool _
  ·exact .int _ _
  exact .str _
 have:(execOp a.eval o).run P w= .ok (.value e.val) w:=by simp[execOp,ho,zb,z1,Instr.lookup,run_underlying z8,MapKept.run_getObj_map hh,K.check w _ za,h1,Result.andThen]
 rw[this];exact hK _ _ w (zh j p h3 h4) (St.value z6 hk hE z7 (Fut.refl _ _ _ _) (zQ _) (Qo hd) (.pure (hr j e p h2 h3).2)) (λ_=>Tl.refl w)
end
end
def rD{α:Type}:Result α->Nat
 | .ok _ w=>w.drawn
 | .halt _ w=>w.drawn
def w1w{α:Type}:∀(k:Ask α) (w:World),w.drawn<=(w.ask k).2.drawn
 | .done a,w=>by simp[World.ask]
 | .ask what range k,w=>by
  unfold World.ask;simp only[];split
  ·exact w1w _ w
  exact yL (ug _) (w1w (k _) { w with drawn:=w.drawn+1 })
def j2i(w:World)(c:Sys):w.drawn<=(w.sys c).2.drawn:=by
 unfold World.sys;have:=w1w (Kernel.perform c w.os) w;split
 ·exact zQ _
 rename_i h;exact(h▸this:w.drawn<=_)
def w2d{p:Program}{w w':World}{x:Addr}{u:TypeId}{a:Addr}{v:Value}{b:Bool}{l:List Addr}(h:w.viewStore p x u a v b= .ok (w',l)):w'.drawn=w.drawn:=by
 unfold World.viewStore at h;simp only[bind,Except.bind,pure,Except.pure,throw,throwThe,MonadExceptOf.throw]at h
 repeat' first
  |(simp at h;done)
  |(simp only[Except.ok.injEq,Prod.mk.injEq]at h;rw[<-h.1];done)
  |split at h
def k2y{p:Program}{w w':World}{a:Addr}{v:Value}{b:Bool}{l:List Addr}(h:w.farStore p a v b= .ok (w',l)):w'.drawn=w.drawn:=by
 unfold World.farStore at h;split at h
 ·split at h
  ·rename_i r hr;obtain rfl:=Except.ok.inj h;exact w2d hr
  cases h
 cases h
def c0p(w:World)(a:Addr)(n:Nat):(w.freeze a n).drawn=w.drawn:=by unfold World.freeze;first|rfl|(split<;>rfl)
def x00{α:Type}(p:Program)(s:Sem α)(w:World):w.drawn<=rD (s.run p w):=by
 induction s generalizing w with
 |pure a=>exact zQ _
 |load m a k ih=>
  simp only[Sem.run];split
  ·exact ih _ _
  split
  ·exact ih _ _
  exact zQ _
 |store m a v k ih=>
  have key:w.drawn<=rD (match w.cell? a with
   |some _=>if w.frozen? a then .halt (.unsupported (.unsafePointer "a write to bytes that a string shares")) w else k.run p (w.setCell a v)
   |none=>match w.farStore p a v (m== .atomic)with
    | .ok (w,_)=>k.run p w
    | .error h=> .halt h w):=by
   split
   ·split
    ·exact zQ _
    exact ih (w.setCell a v)
   split
   ·rename_i hf;have:=k2y hf;rw[<-this];exact ih _
   exact zQ _
  cases v<;>first|exact key|exact zQ _
 |new o k ih=>exact ih _ { w with heap:=w.heap.push o }
 |shape r k ih=>exact ih _ _
 |freeze a n k ih=>simp only[Sem.run];have:=ih (w.freeze a n);rw[c0p]at this;exact this
 |frozen a k ih=>exact ih _ _
 |getObj r k ih=>simp only[Sem.run];split<;>first|exact zQ _|exact ih _ _
 |setObj r o k ih=>simp only[Sem.run];split<;>first|exact zQ _|exact ih { w with heap:=w.heap.setIfInBounds r o }
 |choose q k ih=>
  simp only[Sem.run];split
  ·exact ih _ _
  exact yL (ug _) (ih _ { w with drawn:=w.drawn+1 })
 |sys c k ih=>exact yL (j2i w c) (ih _ _)
 |program k ih=>exact ih _ _
 |mark m k ih=>exact ih _
 |halt h=>exact zQ _
def of_run{α:Type}{p:Program}{s:Sem α}{w:World}{r:Result α}(h:s.run p w=r):w.drawn<=rD r:=by rw[<-h];exact x00 p s w
def z13{α:Type}{p:Program}{s:Sem α}{w w':World}{v:α}(h:s.run p w= .ok v w'):w.drawn<=w'.drawn:=of_run h
def Gk{α:Type}{p:Program}{s:Sem α}{w:World}{es:Array Event}{r:Result α}(h:(s.runT p w es).1=r):w.drawn<=rD r:=by have:=x00 p s w;rw[<-Sem.runT_fst p s w es,h]at this;exact this
def Vs{α:Type}{p:Program}{s:Sem α}{w:World}{es es':Array Event}{r:Result α}(h:s.runT p w es=(r,es')):w.drawn<=rD r:=by have:=x00 p s w;rw[<-Sem.runT_fst p s w es,h]at this;exact this
def gD(d:Nat):GStep->Prop
 | .ended .. =>True
 | .go _ w _=>d<=w.drawn
 | .comm _ _ _ _ w _=>d<=w.drawn
 | .spawn _ _ w _=>d<=w.drawn
 | .count _ w _=>d<=w.drawn
 | .timer _ _ w _=>d<=w.drawn
 | .alone _ _ w _=>d<=w.drawn
 | .newcoro _ _ _ w _=>d<=w.drawn
 | .coroswitch _ _ _ w _=>d<=w.drawn
 | .collect _ w _=>d<=w.drawn
 | .watch _ w _=>d<=w.drawn
def S8{d:Nat}{es:Array Event}{s:GStep}:gD d (GStep.after es s)↔gD d s:=by cases s<;>exact Iff.rfl
def gD.le{d d':Nat}{s:GStep}(h:gD d' s)(hd:d<=d'):gD d s:=by cases s<;>first|trivial|exact yL hd h
def v2z{c:Prop}[Decidable c]{a b:GStep}{d:Nat}(h1:gD d a)(h2:gD d b):gD d (if c then a else b):=by split<;>assumption
def j2l(fr:Frame)(l:List ByteArray)(m:String)(b:Bool)(w:World):gD w.drawn (dieOf fr l m b w):=zQ _
def Hp(fr:Frame)(m:String)(w:World):gD w.drawn (endThrow fr m w):=zQ _
def Jc(p:Program)(fr:Frame)(v:Value)(w:World):gD w.drawn (endPrinting p fr v w):=by unfold endPrinting;simp only[];split<;>first|exact Hp _ _ _|trivial
def v07(p:Program)(fr:Frame)(c:List Frame)(d:Option Dying)(m:String)(w:World):gD w.drawn (endFatal p fr c d m w):=by
 unfold endFatal;simp only[];split
 ·rename_i h;exact(j2l _ _ _ _ _).le (z13 h)
 ·trivial
 trivial
def u0u(w:World)(fd:Nat)(t:ByteArray)(o:Outcome)(d:Nat):gD d (endWith w fd t o):=by
 unfold endWith;simp only[];split
 ·split<;>trivial
 ·trivial
 trivial
def u0h(p:Program)(fr:Frame)(d:Dying)(f:Fatal)(w:World):gD w.drawn (writeOn p fr d f w):=by
 unfold writeOn;simp only[];split
 ·trivial
 split
 ·rename_i h;exact Vs h
 ·rename_i h;exact Vs h
 ·trivial
 trivial
def f0f(p:Program)(main:Bool)(fr:Frame)(c:List Frame)(d:Option Dying)(v:Value)(w:World):gD w.drawn (doReturn p main fr c d v w):=by
 unfold doReturn;simp only[]
 repeat' first
  |exact zQ _
  |trivial
  |split
def Cn(p:Program)(fr:Frame)(c:List Frame)(d:Option Dying)(g:Nat)(w:World):gD w.drawn (early p fr c d g w):=by
 unfold early;simp only[]
 repeat' first
  |exact zQ _
  |trivial
  |(have h0:=of_run ‹Sem.run _ _ _=Result.ok _ _›;exact h0)
  |split
def x2x(p:Program)(fr:Frame)(d:Dying)(w:World):gD w.drawn (die p fr d w):=by
 unfold die;simp only[]
 repeat' first
  |exact zQ _
  |trivial
  |exact u0h _ _ _ _ _
  |exact u0u _ _ _ _ _
  |(have h0:=of_run ‹Sem.run _ _ _=Result.ok _ _›;exact h0)
  |(have h0:=Gk ‹(Sem.runT _ _ _ _).fst=Result.ok _ _›;exact h0)
  |exact(Jc _ _ _ _).le (Gk ‹(Sem.runT _ _ _ _).fst=Result.halt _ _›)
  |(refine S8.2 ?_)
  |split
def w00(p:Program)(fr:Frame)(c:List Frame)(dy:Option Dying)(d:Deferred)(w:World):gD w.drawn (callDeferred p fr c dy d w):=by
 unfold callDeferred;refine v2z trivial ?_
 ·generalize z1:(invoke d.target d.args).runT p w #[]=re;obtain⟨r,es⟩:=re;have hr:=Vs z1;simp only[S8];cases r with
  |ok n w'=>
   cases n<;>(try dsimp only)<;>repeat' first
    |exact hr
    |(have h0:=‹Result.ok _ _=Result.ok _ _›;simp at h0;done)
    |(have h0:=‹Result.ok _ _=Result.ok _ _›;simp only[Result.ok.injEq]at h0;obtain⟨_,rfl⟩:=h0;exact hr)
    |trivial
    |split
  |halt h w'=>
   cases h<;>(try dsimp only)<;>repeat' first
    |exact hr
    |(have h0:=‹Result.halt _ _=Result.halt _ _›;simp at h0;done)
    |(have h0:=‹Result.halt _ _=Result.halt _ _›;simp only[Result.halt.injEq]at h0;obtain⟨_,rfl⟩:=h0;exact hr)
    |(have h0:=‹Result.halt _ _=Result.halt _ _›;simp only[Result.halt.injEq]at h0;obtain⟨_,rfl⟩:=h0;exact(Cn _ _ _ _ _ _).le hr)
    |trivial
    |exact(v07 _ _ _ _ _ _).le hr
    |exact(Hp _ _ _).le hr
    |split
def q12(p:Program)(main:Bool)(fr:Frame)(c:List Frame)(dy:Option Dying)(w:World):gD w.drawn (unwind p main fr c dy w):=by
 unfold unwind;simp only[]
 repeat' first
  |exact zQ _
  |trivial
  |exact w00 _ _ _ _ _ _
  |exact f0f _ _ _ _ _ _ _
  |exact Jc _ _ _ _
  |(have h0:=of_run ‹Sem.run _ _ _=Result.ok _ _›;exact h0)
  |(have h0:=Gk ‹(Sem.runT _ _ _ _).fst=Result.ok _ _›;exact h0)
  |exact(f0f _ _ _ _ _ _ _).le (Gk ‹(Sem.runT _ _ _ _).fst=Result.ok _ _›)
  |(refine S8.2 ?_)
  |split
def Xx(p:Program)(listen:Bool)(fr:Frame)(c:List Frame)(dy:Option Dying)(s:Sem Next)(w:World):gD w.drawn (stepG.apply p listen fr c dy s w):=by
 unfold stepG.apply;simp only[];generalize z1:(if listen=true then s.runT p w #[]else(s.run p w,#[]))=re;obtain⟨r,es⟩:=re;have hr:w.drawn<=rD r:=by
  split at z1
  ·exact Vs z1
  have:=x00 p s w;rw[(Prod.mk.inj z1).1]at this;exact this
 simp only[S8];cases r with
 |ok n w'=>
  cases n<;>(try dsimp only)<;>repeat' first
   |exact hr
   |(have h0:=‹Result.ok _ _=Result.ok _ _›;simp at h0;done)
   |(have h0:=‹Result.ok _ _=Result.ok _ _›;simp only[Result.ok.injEq]at h0;obtain⟨_,rfl⟩:=h0;exact hr)
   |trivial
   |exact(Hp _ _ _).le hr
   |split
 |halt h w'=>
  cases h<;>(try dsimp only)<;>repeat' first
   |exact hr
   |(have h0:=‹Result.halt _ _=Result.halt _ _›;simp at h0;done)
   |(have h0:=‹Result.halt _ _=Result.halt _ _›;simp only[Result.halt.injEq]at h0;obtain⟨_,rfl⟩:=h0;exact hr)
   |(have h0:=‹Result.halt _ _=Result.halt _ _›;simp only[Result.halt.injEq]at h0;obtain⟨_,rfl⟩:=h0;exact(Cn _ _ _ _ _ _).le hr)
   |trivial
   |exact(v07 _ _ _ _ _ _).le hr
   |exact(Hp _ _ _).le hr
   |exact(Cn _ _ _ _ _ _).le hr
   |split
def z2j(p:Program)(listen:Bool)(fr:Frame)(c:List Frame)(dy:Option Dying)(w:World):gD w.drawn (stepG.oper p listen fr c dy w):=by
 unfold stepG.oper
 repeat' first
  |trivial
  |exact Xx _ _ _ _ _ _ _
  |split
def x26(p:Program)(main listen:Bool)(fr:Frame)(c:List Frame)(dy:Option Dying)(w:World):gD w.drawn (stepG.exec p main listen fr c dy w):=by
 unfold stepG.exec;dsimp only
 repeat' first
  |exact zQ _
  |trivial
  |exact Xx _ _ _ _ _ _ _
  |exact z2j _ _ _ _ _ _
  |(simp only[Option.elim];split)
  |(have h0:=of_run ‹Sem.run _ _ _=Result.ok _ _›;exact h0)
  |(have h0:=Gk ‹(Sem.runT _ _ _ _).fst=Result.ok _ _›;exact h0)
  |exact(Xx _ _ _ _ _ _ _).le (Gk ‹(Sem.runT _ _ _ _).fst=Result.ok _ _›)
  |(have h0:=Gk ‹(Sem.runT _ _ _ _).fst=Result.halt _ _›;exact h0)
  |exact(f0f _ _ _ _ _ _ _).le (Gk ‹(Sem.runT _ _ _ _).fst=Result.ok _ _›)
  |(refine S8.2 ?_)
  |split
def y2q(p:Program)(main:Bool)(g:Goroutine)(w:World)(listen:Bool):gD w.drawn (stepG p main g w listen):=by
 unfold stepG;simp only[]
 repeat' first
  |exact x2x _ _ _ _
  |exact x26 _ _ _ _ _ _ _
  |exact q12 _ _ _ _ _ _
  |split
def y23{rest:Rest}{cases:Array CommCase}{w w':World}(h:waitingAt rest cases w=some w'):w'.drawn=w.drawn:=by
 unfold waitingAt at h
 repeat' first
  |(simp at h;done)
  |(simp only[Option.some.injEq]at h;subst h;rfl)
  |split at h
def z2a(p:Program)(rest:Rest)(gs:Array Goroutine)(i:Nat)(g:Goroutine)(cases:Array CommCase)(blocking:Bool)(shape:CommShape)(w:World)(m':Machine)(h:(communicate p rest gs i g cases blocking shape w).1= .next m'):w.drawn<=m'.world.drawn:=by
 unfold communicate at h;simp only[]at h
 repeat' first
  |(simp at h;done)
  |(simp only[Stepped.next.injEq]at h;subst h;exact zQ _)
  |(simp only[Stepped.next.injEq]at h;subst h;have h0:=y23 ‹waitingAt _ _ _=some _›;exact sh h0.symm)
  |(simp only[Stepped.next.injEq]at h;subst h;rename Sem.run _ _ _=Result.ok _ _=>z0;have a0:=of_run z0;clear z0;simp only[rD,Machine.advanceTo]at a0 |-;omega)
  |(simp only[Stepped.next.injEq]at h;subst h;rename Sem.run _ _ _=Result.ok _ _=>z0;have a0:=of_run z0;clear z0;simp only[rD]at a0;omega)
  |(simp only[Stepped.next.injEq]at h;subst h;rename Sem.run _ _ _=Result.ok _ _=>z0;have a0:=of_run z0;clear z0;rename Sem.run _ _ _=Result.ok _ _=>z1;have a1:=of_run z1;clear z1;simp only[rD,Machine.advanceTo]at a0 a1 |-;omega)
  |(simp only[Stepped.next.injEq]at h;subst h;rename Sem.run _ _ _=Result.ok _ _=>z0;have a0:=of_run z0;clear z0;rename Sem.run _ _ _=Result.ok _ _=>z1;have a1:=of_run z1;clear z1;simp only[rD]at a0 a1;omega)
  |(simp only[Stepped.next.injEq]at h;subst h;rename Sem.run _ _ _=Result.ok _ _=>z0;have a0:=of_run z0;clear z0;rename Sem.run _ _ _=Result.ok _ _=>z1;have a1:=of_run z1;clear z1;rename Sem.run _ _ _=Result.ok _ _=>z2;have a2:=of_run z2;clear z2;simp only[rD,Machine.advanceTo]at a0 a1 a2 |-;omega)
  |(simp only[Stepped.next.injEq]at h;subst h;rename Sem.run _ _ _=Result.ok _ _=>z0;have a0:=of_run z0;clear z0;rename Sem.run _ _ _=Result.ok _ _=>z1;have a1:=of_run z1;clear z1;rename Sem.run _ _ _=Result.ok _ _=>z2;have a2:=of_run z2;clear z2;simp only[rD]at a0 a1 a2;omega)
  |(simp only[Stepped.next.injEq]at h;subst h;rename Sem.run _ _ _=Result.ok _ _=>z0;have a0:=of_run z0;clear z0;rename Sem.run _ _ _=Result.ok _ _=>z1;have a1:=of_run z1;clear z1;rename Sem.run _ _ _=Result.ok _ _=>z2;have a2:=of_run z2;clear z2;rename Sem.run _ _ _=Result.ok _ _=>z3;have a3:=of_run z3;clear z3;simp only[rD,Machine.advanceTo]at a0 a1 a2 a3 |-;omega)
  |(simp only[Stepped.next.injEq]at h;subst h;rename Sem.run _ _ _=Result.ok _ _=>z0;have a0:=of_run z0;clear z0;rename Sem.run _ _ _=Result.ok _ _=>z1;have a1:=of_run z1;clear z1;rename Sem.run _ _ _=Result.ok _ _=>z2;have a2:=of_run z2;clear z2;rename Sem.run _ _ _=Result.ok _ _=>z3;have a3:=of_run z3;clear z3;simp only[rD]at a0 a1 a2 a3;omega)
  |(simp only[Stepped.next.injEq]at h;subst h;rename Sem.run _ _ _=Result.halt _ _=>z0;have a0:=of_run z0;clear z0;rename Sem.run _ _ _=Result.ok _ _=>z1;have a1:=of_run z1;clear z1;simp only[rD,Machine.advanceTo]at a0 a1 |-;omega)
  |(simp only[Stepped.next.injEq]at h;subst h;rename Sem.run _ _ _=Result.halt _ _=>z0;have a0:=of_run z0;clear z0;rename Sem.run _ _ _=Result.ok _ _=>z1;have a1:=of_run z1;clear z1;simp only[rD]at a0 a1;omega)
  |split at h
def Tt(p:Program)(m m':Machine)(k:Nat)(h:serve p m k= .next m'):m.world.drawn<=m'.world.drawn:=by
 unfold serve at h;simp only[]at h
 repeat' first
  |(simp at h;done)
  |(simp only[Stepped.next.injEq]at h;subst h;exact zQ _)
  |split at h
def w0t(p:Program)(gs:Array Goroutine)(rest:Rest)(w:World)(m':Machine)(h:Go.look p gs rest w= .next m'):w.drawn<=m'.world.drawn:=by
 unfold Go.look at h;simp only[]at h
 repeat' first
  |(simp at h;done)
  |(simp only[Stepped.next.injEq]at h;subst h;have h0:=of_run ‹Sem.run _ _ _=Result.ok _ _›;exact h0)
  |split at h
def u18{fr:Frame}{m:String}{w w':World}{g:Goroutine}{es:Array Event}(h:endThrow fr m w= .go g w' es):w'=w:=by unfold endThrow dieOf at h;simp only[GStep.go.injEq]at h;exact h.2.1.symm
def w1b(m:Machine)(k:Nat)(t:Timer)(a b:Nat):(retime m k t a b).2.world.drawn=m.world.drawn:=by
 unfold retime drain;simp only[]
 repeat' first
  |rfl
  |split
def z1y{m m':Machine}{v:Addr}(h:timerOp.opened m v=some m'):m'.world.drawn=m.world.drawn:=by
 unfold timerOp.opened at h
 repeat' first
  |(simp at h;done)
  |(simp only[Option.some.injEq]at h;subst h;rfl)
  |split at h
def x03{m m' m1:Machine}{x:Addr}{v:Value}{a:Timer->Nat}{b:Timer->Nat}(h:timerOp.named m x (λk t=>retime m1 k t (a t) (b t))= .ok (v,m')):m'.world.drawn=m1.world.drawn:=by
 unfold timerOp.named at h;split at h
 ·simp only[Except.ok.injEq]at h;have:=congrArg Prod.snd h;simp only at this;rw[<-this];exact w1b _ _ _ _ _
 cases h
def u1f(m m':Machine)(op:TimerOp)(v:Value)(h:timerOp m op= .ok (v,m')):m'.world.drawn=m.world.drawn:=by
 unfold timerOp at h
 repeat' first
  |(simp at h;done)
  |(simp only[Except.ok.injEq,Prod.mk.injEq]at h;obtain⟨_,rfl⟩:=h;rfl)
  |exact x03 (a:=λ_=>0) (b:=λt=>t.period) h
  |(have h0:=z1y ‹timerOp.opened _ _=some _›;rw[<-h0];exact x03 (a:=λ_=>_) (b:=λ_=>_) h)
  |split at h
def q2p(p:Program)(m m':Machine)(i:Nat)(b:Bool)(h:(runT p m i b).1= .next m'):m.world.drawn<=m'.world.drawn:=by
 simp only[runT]at h;revert h;generalize m.gs.swapAt! i _=gg;have hs:=y2q p (i==0) gg.1 m.world b;revert hs;generalize stepG p (i==0) gg.1 m.world b=s;intro hs h;cases s<;>simp only[]at h;all_goals first
  |(simp at h;done)
  |exact yL hs (z2a _ _ _ _ _ _ _ _ _ _ h)
  |exact yL hs (w0t _ _ _ _ _ h)
  |(simp only[Stepped.next.injEq]at h;subst h;exact hs)
  |(repeat' first
    |(simp at h;done)
    |(simp only[Stepped.next.injEq]at h;subst h;exact hs)
    |(simp only[Stepped.next.injEq]at h;subst h;have h0:=u18 ‹endThrow _ _ _=_›;subst h0;exact hs)
    |(simp only[Stepped.next.injEq]at h;subst h;have:=u1f _ _ _ _ (by assumption);exact yL hs (sh this.symm))
    |split at h)
def Ve(p:Program)(m m':Machine)(ops:Array MemOp)(h:askOn p m= .machine (.next m') ops):m.world.drawn<=m'.world.drawn:=by
 unfold askOn at h;simp only[]at h
 repeat' first
  |(simp at h;done)
  |(simp only[Move.machine.injEq]at h;have h9:=Tt _ _ _ _ h.1;dsimp only at h9;rename Sem.run _ _ _=Result.ok _ _=>z0;have a0:=of_run z0;clear z0;simp only[rD,Machine.advanceTo]at a0 |-;omega)
  |(simp only[Move.machine.injEq]at h;have h9:=Tt _ _ _ _ h.1;dsimp only at h9;rename Sem.run _ _ _=Result.ok _ _=>z0;have a0:=of_run z0;clear z0;simp only[rD]at a0;omega)
  |(simp only[Move.machine.injEq]at h;have h9:=Tt _ _ _ _ h.1;dsimp only at h9;rename Sem.run _ _ _=Result.ok _ _=>z0;have a0:=of_run z0;clear z0;rename Sem.run _ _ _=Result.ok _ _=>z1;have a1:=of_run z1;clear z1;simp only[rD,Machine.advanceTo]at a0 a1 |-;omega)
  |(simp only[Move.machine.injEq]at h;have h9:=Tt _ _ _ _ h.1;dsimp only at h9;rename Sem.run _ _ _=Result.ok _ _=>z0;have a0:=of_run z0;clear z0;rename Sem.run _ _ _=Result.ok _ _=>z1;have a1:=of_run z1;clear z1;simp only[rD]at a0 a1;omega)
  |(simp only[Move.machine.injEq]at h;have h9:=Tt _ _ _ _ h.1;dsimp only at h9;rename Sem.run _ _ _=Result.ok _ _=>z0;have a0:=of_run z0;clear z0;rename Sem.run _ _ _=Result.ok _ _=>z1;have a1:=of_run z1;clear z1;rename Sem.run _ _ _=Result.ok _ _=>z2;have a2:=of_run z2;clear z2;simp only[rD,Machine.advanceTo]at a0 a1 a2 |-;omega)
  |(simp only[Move.machine.injEq]at h;have h9:=Tt _ _ _ _ h.1;dsimp only at h9;rename Sem.run _ _ _=Result.ok _ _=>z0;have a0:=of_run z0;clear z0;rename Sem.run _ _ _=Result.ok _ _=>z1;have a1:=of_run z1;clear z1;rename Sem.run _ _ _=Result.ok _ _=>z2;have a2:=of_run z2;clear z2;simp only[rD]at a0 a1 a2;omega)
  |(simp only[Move.machine.injEq]at h;have h9:=Tt _ _ _ _ h.1;dsimp only at h9;rename Sem.run _ _ _=Result.ok _ _=>z0;have a0:=of_run z0;clear z0;rename Sem.run _ _ _=Result.ok _ _=>z1;have a1:=of_run z1;clear z1;rename Sem.run _ _ _=Result.ok _ _=>z2;have a2:=of_run z2;clear z2;rename Sem.run _ _ _=Result.ok _ _=>z3;have a3:=of_run z3;clear z3;simp only[rD,Machine.advanceTo]at a0 a1 a2 a3 |-;omega)
  |(simp only[Move.machine.injEq]at h;have h9:=Tt _ _ _ _ h.1;dsimp only at h9;rename Sem.run _ _ _=Result.ok _ _=>z0;have a0:=of_run z0;clear z0;rename Sem.run _ _ _=Result.ok _ _=>z1;have a1:=of_run z1;clear z1;rename Sem.run _ _ _=Result.ok _ _=>z2;have a2:=of_run z2;clear z2;rename Sem.run _ _ _=Result.ok _ _=>z3;have a3:=of_run z3;clear z3;simp only[rD]at a0 a1 a2 a3;omega)
  |(simp only[Move.machine.injEq]at h;have h9:=Tt _ _ _ _ h.1;dsimp only at h9;rename Sem.run _ _ _=Result.halt _ _=>z0;have a0:=of_run z0;clear z0;rename Sem.run _ _ _=Result.ok _ _=>z1;have a1:=of_run z1;clear z1;simp only[rD,Machine.advanceTo]at a0 a1 |-;omega)
  |(simp only[Move.machine.injEq]at h;have h9:=Tt _ _ _ _ h.1;dsimp only at h9;rename Sem.run _ _ _=Result.halt _ _=>z0;have a0:=of_run z0;clear z0;rename Sem.run _ _ _=Result.ok _ _=>z1;have a1:=of_run z1;clear z1;simp only[rD]at a0 a1;omega)
  |(simp only[Move.machine.injEq,Stepped.next.injEq]at h;rw[<-h.1];rename Sem.run _ _ _=Result.ok _ _=>z0;have a0:=of_run z0;clear z0;simp only[rD,Machine.advanceTo]at a0 |-;omega)
  |(simp only[Move.machine.injEq,Stepped.next.injEq]at h;rw[<-h.1];rename Sem.run _ _ _=Result.ok _ _=>z0;have a0:=of_run z0;clear z0;simp only[rD]at a0;omega)
  |(simp only[Move.machine.injEq,Stepped.next.injEq]at h;rw[<-h.1];rename Sem.run _ _ _=Result.ok _ _=>z0;have a0:=of_run z0;clear z0;rename Sem.run _ _ _=Result.ok _ _=>z1;have a1:=of_run z1;clear z1;simp only[rD,Machine.advanceTo]at a0 a1 |-;omega)
  |(simp only[Move.machine.injEq,Stepped.next.injEq]at h;rw[<-h.1];rename Sem.run _ _ _=Result.ok _ _=>z0;have a0:=of_run z0;clear z0;rename Sem.run _ _ _=Result.ok _ _=>z1;have a1:=of_run z1;clear z1;simp only[rD]at a0 a1;omega)
  |(simp only[Move.machine.injEq,Stepped.next.injEq]at h;rw[<-h.1];rename Sem.run _ _ _=Result.ok _ _=>z0;have a0:=of_run z0;clear z0;rename Sem.run _ _ _=Result.ok _ _=>z1;have a1:=of_run z1;clear z1;rename Sem.run _ _ _=Result.ok _ _=>z2;have a2:=of_run z2;clear z2;simp only[rD,Machine.advanceTo]at a0 a1 a2 |-;omega)
  |(simp only[Move.machine.injEq,Stepped.next.injEq]at h;rw[<-h.1];rename Sem.run _ _ _=Result.ok _ _=>z0;have a0:=of_run z0;clear z0;rename Sem.run _ _ _=Result.ok _ _=>z1;have a1:=of_run z1;clear z1;rename Sem.run _ _ _=Result.ok _ _=>z2;have a2:=of_run z2;clear z2;simp only[rD]at a0 a1 a2;omega)
  |(simp only[Move.machine.injEq,Stepped.next.injEq]at h;rw[<-h.1];rename Sem.run _ _ _=Result.ok _ _=>z0;have a0:=of_run z0;clear z0;rename Sem.run _ _ _=Result.ok _ _=>z1;have a1:=of_run z1;clear z1;rename Sem.run _ _ _=Result.ok _ _=>z2;have a2:=of_run z2;clear z2;rename Sem.run _ _ _=Result.ok _ _=>z3;have a3:=of_run z3;clear z3;simp only[rD,Machine.advanceTo]at a0 a1 a2 a3 |-;omega)
  |(simp only[Move.machine.injEq,Stepped.next.injEq]at h;rw[<-h.1];rename Sem.run _ _ _=Result.ok _ _=>z0;have a0:=of_run z0;clear z0;rename Sem.run _ _ _=Result.ok _ _=>z1;have a1:=of_run z1;clear z1;rename Sem.run _ _ _=Result.ok _ _=>z2;have a2:=of_run z2;clear z2;rename Sem.run _ _ _=Result.ok _ _=>z3;have a3:=of_run z3;clear z3;simp only[rD]at a0 a1 a2 a3;omega)
  |(simp only[Move.machine.injEq,Stepped.next.injEq]at h;rw[<-h.1];rename Sem.run _ _ _=Result.halt _ _=>z0;have a0:=of_run z0;clear z0;rename Sem.run _ _ _=Result.ok _ _=>z1;have a1:=of_run z1;clear z1;simp only[rD,Machine.advanceTo]at a0 a1 |-;omega)
  |(simp only[Move.machine.injEq,Stepped.next.injEq]at h;rw[<-h.1];rename Sem.run _ _ _=Result.halt _ _=>z0;have a0:=of_run z0;clear z0;rename Sem.run _ _ _=Result.ok _ _=>z1;have a1:=of_run z1;clear z1;simp only[rD]at a0 a1;omega)
  |split at h
def Ce(p:Program)(m m':Machine)(i:Nat)(h:askOn p m= .goroutine m' i):m.world.drawn<=m'.world.drawn:=by
 unfold askOn at h;simp only[]at h
 repeat' first
  |(simp at h;done)
  |(simp only[Move.goroutine.injEq]at h;rw[<-h.1];rename Sem.run _ _ _=Result.ok _ _=>z0;have a0:=of_run z0;clear z0;simp only[rD,Machine.advanceTo]at a0 |-;omega)
  |(simp only[Move.goroutine.injEq]at h;rw[<-h.1];rename Sem.run _ _ _=Result.ok _ _=>z0;have a0:=of_run z0;clear z0;simp only[rD]at a0;omega)
  |(simp only[Move.goroutine.injEq]at h;rw[<-h.1];rename Sem.run _ _ _=Result.ok _ _=>z0;have a0:=of_run z0;clear z0;rename Sem.run _ _ _=Result.ok _ _=>z1;have a1:=of_run z1;clear z1;simp only[rD,Machine.advanceTo]at a0 a1 |-;omega)
  |(simp only[Move.goroutine.injEq]at h;rw[<-h.1];rename Sem.run _ _ _=Result.ok _ _=>z0;have a0:=of_run z0;clear z0;rename Sem.run _ _ _=Result.ok _ _=>z1;have a1:=of_run z1;clear z1;simp only[rD]at a0 a1;omega)
  |(simp only[Move.goroutine.injEq]at h;rw[<-h.1];rename Sem.run _ _ _=Result.ok _ _=>z0;have a0:=of_run z0;clear z0;rename Sem.run _ _ _=Result.ok _ _=>z1;have a1:=of_run z1;clear z1;rename Sem.run _ _ _=Result.ok _ _=>z2;have a2:=of_run z2;clear z2;simp only[rD,Machine.advanceTo]at a0 a1 a2 |-;omega)
  |(simp only[Move.goroutine.injEq]at h;rw[<-h.1];rename Sem.run _ _ _=Result.ok _ _=>z0;have a0:=of_run z0;clear z0;rename Sem.run _ _ _=Result.ok _ _=>z1;have a1:=of_run z1;clear z1;rename Sem.run _ _ _=Result.ok _ _=>z2;have a2:=of_run z2;clear z2;simp only[rD]at a0 a1 a2;omega)
  |(simp only[Move.goroutine.injEq]at h;rw[<-h.1];rename Sem.run _ _ _=Result.ok _ _=>z0;have a0:=of_run z0;clear z0;rename Sem.run _ _ _=Result.ok _ _=>z1;have a1:=of_run z1;clear z1;rename Sem.run _ _ _=Result.ok _ _=>z2;have a2:=of_run z2;clear z2;rename Sem.run _ _ _=Result.ok _ _=>z3;have a3:=of_run z3;clear z3;simp only[rD,Machine.advanceTo]at a0 a1 a2 a3 |-;omega)
  |(simp only[Move.goroutine.injEq]at h;rw[<-h.1];rename Sem.run _ _ _=Result.ok _ _=>z0;have a0:=of_run z0;clear z0;rename Sem.run _ _ _=Result.ok _ _=>z1;have a1:=of_run z1;clear z1;rename Sem.run _ _ _=Result.ok _ _=>z2;have a2:=of_run z2;clear z2;rename Sem.run _ _ _=Result.ok _ _=>z3;have a3:=of_run z3;clear z3;simp only[rD]at a0 a1 a2 a3;omega)
  |(simp only[Move.goroutine.injEq]at h;rw[<-h.1];rename Sem.run _ _ _=Result.halt _ _=>z0;have a0:=of_run z0;clear z0;rename Sem.run _ _ _=Result.ok _ _=>z1;have a1:=of_run z1;clear z1;simp only[rD,Machine.advanceTo]at a0 a1 |-;omega)
  |(simp only[Move.goroutine.injEq]at h;rw[<-h.1];rename Sem.run _ _ _=Result.halt _ _=>z0;have a0:=of_run z0;clear z0;rename Sem.run _ _ _=Result.ok _ _=>z1;have a1:=of_run z1;clear z1;simp only[rD]at a0 a1;omega)
  |split at h
def u2e(p:Program)(m m':Machine)(ops:Array MemOp)(h:ask p m= .machine (.next m') ops):m.world.drawn<=m'.world.drawn:=by
 unfold ask at h;split at h
 ·split at h
  ·cases h
  ·rename_i hr;split at h
   ·rename_i hl;exact yL (z13 hr) (yL (w0t _ _ _ _ _ hl) (Ve _ _ _ _ h))
   rename_i hl;simp only[Move.machine.injEq]at h;exact absurd h.1 (hl _)
  rename_i hr;exact yL (z13 hr) (Ve p { m with world:=_ } _ _ h)
 exact Ve _ _ _ _ h
def u2f(p:Program)(m m':Machine)(i:Nat)(h:ask p m= .goroutine m' i):m.world.drawn<=m'.world.drawn:=by
 unfold ask at h;split at h
 ·split at h
  ·cases h
  ·rename_i hr;split at h
   ·rename_i hl;exact yL (z13 hr) (yL (w0t _ _ _ _ _ hl) (Ce _ _ _ _ h))
   cases h
  rename_i hr;exact yL (z13 hr) (Ce p { m with world:=_ } _ _ h)
 exact Ce _ _ _ _ h
def u2n(p:Program)(m m':Machine)(ops:Array MemOp)(h:move p m= .machine (.next m') ops):m.world.drawn<=m'.world.drawn:=by
 unfold move at h
 repeat' first
  |(simp at h;done)
  |exact u2e _ _ _ _ h
  |(have h0:=u2e _ _ _ _ h;exact h0)
  |split at h
def j2o(p:Program)(m m':Machine)(i:Nat)(h:move p m= .goroutine m' i):m.world.drawn<=m'.world.drawn:=by
 unfold move at h
 repeat' first
  |(simp at h;done)
  |(simp only[Move.goroutine.injEq]at h;rw[<-h.1];exact zQ _)
  |exact u2f _ _ _ _ h
  |(have h0:=u2f _ _ _ _ h;exact h0)
  |split at h
def w2o(p:Program)(m m':Machine)(h:step p m= .next m'):m.world.drawn<=m'.world.drawn:=by
 unfold Go.step Go.stepT at h;split at h
 ·rename_i hm;exact yL (j2o _ _ _ _ hm) (q2p _ _ _ _ _ h)
 rename_i hm;simp only at h;subst h;exact u2n _ _ _ _ hm
def w1d(p:Program):∀(n:Nat) (m m':Machine),runN p n m= .next m'->m.world.drawn<=m'.world.drawn
 |0,m,m',h=>by unfold runN at h;cases h;exact zQ _
 |n+1,m,m',h=>by
  unfold runN at h;split at h
  ·rename_i hs;exact yL (w2o _ _ _ hs) (w1d p n _ _ h)
  rename_i hs;exact absurd h (hs _)
def g1a{P:Program}{f:FuncId}{args:Array Value}{w:World}{R:Ending->World->Prop}(h:Calls P f args w R):
  Calls P f args w λe w'=>R e w'/\∀v,e= .returned v->w.drawn<=w'.drawn:=λcs=>by
 obtain⟨e,w',fr,hR,hc,h1,h2⟩:=h cs;refine⟨e,w',fr,⟨hR,λv hv=>?_⟩,hc,h1,h2⟩;subst hv;obtain⟨n,hn⟩:=hc;exact w1d P n _ _ hn
section
open Go.Sort Go.RowKit
structure RowW (w:World) (I:Nat->Prop) (k:Nat) (xs:List AV) (F:Array Value):Prop where
 size:F.size=xs.length * k
 width:∀x∈xs,x.cells.length=k
 cell:∀(i:Nat) (x:AV),xs[i]?=some x->∀(j:Nat) (y:AV),x.cells[j]?=some y->PVR w I F[i * k+j]! y
def EOK.same{P:Program}[Env P]{w w':World}{I:Nat->Prop}(h:EOK P w I)(hs:∀b,I b->w'.heap[b]? =w.heap[b]?):EOK P w' I:=λg pr hm=>by obtain⟨h1,cs,t,fr,h2,h3⟩:=h g pr hm;exact⟨h1,cs,t,fr,h2,by rw[hs g h1];exact h3⟩
section
variable {W0:World} {I0:Nat->Prop} {w:World} {I:Nat->Prop} {m:Nat->Option Nat} {H:List AObj} {p b:Nat} {e:TypeId} {k:Nat} {xs:List AV}
def k1l(z6:WS W0 I0 w I m H)(ho:H[p]?=some (.arr e k xs))(hm:m p=some b):(∃F,RowW w I k xs F/\Holds id w b 0 F)/\b<w.heap.size/\¬I b:=by
 obtain⟨_,hI,hb⟩:=z6.own p _ b ho rfl hm;refine⟨?_,hb,hI⟩;rcases z6.obj p _ ho with⟨e1,_⟩|⟨b',cap,vs,z7,hh,q1,q2,q3,q4,hr⟩
 ·rw[hm]at e1;cases e1
 obtain rfl:b=b':=by rw[hm]at z7;exact Option.some.inj z7
 have hcap:xs.length * k<=vs.size:=by rw[q3];exact yF k q1
 have z1:(vs.extract 0 (xs.length * k)).size=xs.length * k:=by simp;omega
 refine⟨vs.extract 0 (xs.length * k),⟨z1,q4,λi x hx j y hy=>?_⟩,λj hj=>?_⟩
 ·obtain⟨v,hv,hp⟩:=hr i x hx j y hy;have hi:i<xs.length:=(zB.1 hx).1;have hj:j<k:=by have:=q4 x (zJ hx);rw[<-this];exact(zB.1 hy).1
  have z8:i * k+j<xs.length * k:=by have:=yF k (show i+1<=xs.length from hi);rw[yO,tV]at this;omega
  rw[getElem!_pos _ _ (by rw[z1];exact z8)];have:(vs.extract 0 (xs.length * k))[i * k+j]'(by rw[z1];exact z8)=v:=by have h2:=(yQ.1 hv).2;simp[h2]
  rw[this];exact hp
 rw[z1]at hj;have za:j<vs.size:=by omega
 have:(vs.extract 0 (xs.length * k))[j]! =vs[j]:=by rw[getElem!_pos _ _ (by rw[z1];exact hj)];simp
 rw[this];simp[World.cell?,World.frozen?,hh,za]
def j1u(z8:WS W0 I0 w I m H)(ho:H[p]?=some (.arr e k xs))(hm:m p=some b){F:Array Value}(hF:RowW w I k xs F){z1:List AV}{F':Array Value}(hl:z1.length=xs.length)(z7:RowW w I k z1 F')(n:Nat)(os:Array Obj):
  WS W0 I0 (grow (putRow id (Sort.ahead w n) b 0 F') os) I m (H.set p (.arr e k z1))/\Fut H.length w I m (grow (putRow id (Sort.ahead w n) b 0 F') os) I m:=by
 obtain⟨_,_,hb⟩:=z8.own p _ b ho rfl hm;rcases z8.obj p _ ho with⟨e1,_⟩|⟨b',cap,vs,zb,hh,q1,q2,q3,q4,hr⟩
 ·rw[hm]at e1;cases e1
 obtain rfl:b=b':=by rw[hm]at zb;exact Option.some.inj zb
 have z6:∀c,c<w.heap.size->(grow (putRow id (Sort.ahead w n) b 0 F') os).heap[c]? =if b=c then(w.heap[c]?).map (onCells (putCells id 0 F'))else w.heap[c]? :=by intro c hc;simp only[grow,putRow,mapBlock,Sort.ahead];rw[y_ (by simpa using hc),wU]
 have zc:(grow (putRow id (Sort.ahead w n) b 0 F') os).heap[b]?=some (.cells (putCells id 0 F' vs) e (0,0)):=by rw[z6 b hb,if_pos rfl,hh];rfl
 have hg:w.grownBy (grow (putRow id (Sort.ahead w n) b 0 F') os) (some b):=⟨rfl,rfl,rfl,by simp[grow,putRow,mapBlock,Sort.ahead],λc hc zd=>by
  rw[z6 c hc,if_neg (λh=>zd (by rw[h]))]⟩
 refine z8.set (o':= .arr e k z1) ho rfl hm hg (λs hs=>?_) (λm' hf=> .inr ⟨b,cap,putCells id 0 F' vs,rfl,zc,by omega,q2,by simp[putCells,q3],z7.width,λi x hx j y hy=>?_⟩)
 ·simp only[World.shape?,hh]at hs;simp only[World.shape?,zc];simpa[putCells]using hs
 have hi:i<z1.length:=(zB.1 hx).1;have hj:j<k:=by have:=z7.width x (zJ hx);rw[<-this];exact(zB.1 hy).1
 have ze:i * k+j<z1.length * k:=by have:=yF k (show i+1<=z1.length from hi);rw[yO,tV]at this;omega
 have za:i * k+j<vs.size:=by rw[q3];have:=yF k (show z1.length<=cap by omega);omega
 refine⟨F'[i * k+j]!,?_,(z7.cell i x hx j y hy).mono hf.ext⟩;have:=z7.size;simp only[putCells,Array.getElem?_mapIdx,xF za,wG];rw[if_pos (by omega)];rfl
def q0z {P:Program} [Env P] {f:FuncId} {rest:List AV} (hc:Tu P f) {len:Nat} (zb:xs.length=len) (ho:H[p]?=some (.arr e k xs))
  (us:List Value) (hu:∀(w:World) (I:Nat->Prop) (m:Nat->Option Nat) (vs:List Value),vs.length=rest.length->(∀(i:Nat) (v:Value) (x:AV),vs[i]?=some v->rest[i]?=some x->VR w I m H.length v x)->vs=us)
  (Rx:List AV->Prop)
  (h:∀(w:World) (I:Nat->Prop) (b cap:Nat) (F:Array Value),EOK P w I->(∀c,I c->c<w.heap.size)->¬I b->RowW w I k xs F->Holds id w b 0 F->b<w.heap.size->len<=cap->Calls P f (#[.slice (some ⟨b,0,none⟩) len cap]++us.toArray) w λen w'=>en= .returned (.tuple #[])/\∃(z1:List AV) (F':Array Value) (n:Nat) (os:Array Obj),Rx z1/\z1.length=xs.length/\RowW w I k z1 F'/\w'=grow (putRow id (Sort.ahead w n) b 0 F') os)
  (h0:xs=[]->Rx []/\∀(w:World),Calls P f (#[.slice none 0 0]++us.toArray) w λen w'=>en= .returned (.tuple #[])/\w'=w):
  FC P f (.sl p k 0 len::rest) H (λr H'=>r= .tup []/\∃z1,Rx z1/\H'=H.set p (.arr e k z1)):=by
 refine⟨hc,λW0 I0 w I m vals hE z6 z8 hv=>?_⟩;rcases vals with⟨vals⟩
 cases vals with
 |nil=>simp at z8
 |cons v vs=>
  have zc:vs=us:=hu w I m vs (by simpa using z8) λi v x a b=>hv (i+1) v x (by simpa using a) (by simpa using b);subst zc;have zd:=hv 0 v _ rfl rfl;have tupR:∀(w:World) (I:Nat->Prop) (m:Nat->Option Nat) (n:Nat),VR w I m n (.tuple #[]) (.tup []):=λw I m n=> .tup _ _ rfl (λi v x a=>by simp at a);rcases zd.sl_inv with⟨b,cap,t,hb,hn,zg,hle,hmax,z7⟩|⟨hb,hn,_,ze,z7⟩|⟨_,_,hlo,_,_⟩
  ·subst z7;obtain⟨⟨F,g0,g1⟩,g2,g3⟩:=k1l z6 ho hb;have:=h w I b cap F (hE.go z6.below z6.i0) (λc hc=>(z6.iw c hc).1) g3 g0 g1 g2 hle;simp only[uP];refine Calls.mono (by rw[Hq]at this;exact this) ?_;rintro en w' ⟨rfl,z1,F',n,os,hx,hl,zf,rfl⟩;obtain⟨k1,k2⟩:=j1u z6 ho hb g0 hl zf n os;exact⟨_,_,_,I,m,⟨rfl,z1,hx,rfl⟩,rfl,k1,by simp,k2,tupR _ _ _ _⟩
  ·subst z7;have za:xs=[]:=by cases xs with|nil=>rfl|cons=>simp at zb;omega
   obtain⟨r0,r1⟩:=h0 za;subst ze;refine Calls.mono (by have:=r1 w;rw[Hq]at this;exact this) ?_;rintro en w' ⟨rfl,rfl⟩;refine⟨_,_,H,I,m,⟨rfl,[],r0,?_⟩,rfl,z6,zQ _,.refl _ _ _ _,tupR _ _ _ _⟩;rw[<-za];exact(xN λi=>by
    by_cases hi:i=p
    ·subst hi;rw[ho,zL (zB.1 ho).1]
    rw[zE (λh=>hi h.symm)])
  omega
end
def grown_of{w w':World}(hb:Below w.heap.size w w')(hd:w.drawn<=w'.drawn):∃q os,w'=grow (w.drewN q) os:=by
 refine⟨w'.drawn - w.drawn,w'.heap.extract w.heap.size w'.heap.size,?_⟩;have h1:=hb.os;have h2:=hb.tape;have h3:=hb.output;have h4:=hb.size;have h5:=hb.block;have hh:w'.heap=w.heap++w'.heap.extract w.heap.size w'.heap.size:=by
  refine Array.ext_getElem? λi=>?_;by_cases hi:i<w.heap.size
  ·rw[h5 i hi,y_ hi]
  rw[u6 (by omega),Array.getElem?_extract];by_cases hi2:i<w'.heap.size
  ·rw[if_pos (by omega),show w.heap.size+(i - w.heap.size)=i by omega]
  rw[if_neg (by omega),Array.getElem?_eq_none (by omega)]
 cases w';simp only at h1 h2 h3 hh hd;subst h1 h2 h3;simp only[grow,World.drewN,World.mk.injEq,true_and,and_true];exact⟨hh,by omega⟩
def PC.laid {P:Program} [Env P] {f:FuncId} {xs:List AV} {z:Int} (h:PC P f xs (λr=>r= .int .i64 z)) {w W:World} {I:Nat->Prop} (hE:EOK P w I) (hI:∀c,I c->c<w.heap.size) (hW:∀c,I c->W.heap[c]? =w.heap[c]?) {vals:Array Value} (hs:vals.size=xs.length)
  (hv:∀(i:Nat) (v:Value) (x:AV),vals[i]?=some v->xs[i]?=some x->PVR w I v x):
  Calls P f vals W λe w'=>e= .returned (.int .i64 z)/\∃q os,w'=grow (W.drewN q) os:=by
 have z1:∀c,I c->c<W.heap.size:=λc hc=>by have h1:=xF (hI c hc);rw[<-hW c hc]at h1;exact(yQ.1 h1).1
 have hx:Ext w W I I:=⟨λ_ h=>h,hW⟩
 refine(g1a (h.2 W I vals (hE.same hW) z1 hs λi v x a b=>(hv i v x a b).mono hx)).mono ?_;rintro e w' ⟨⟨v,I',r,rfl,rfl,hb,_,_,hp⟩,hd⟩;cases hp;exact⟨rfl,grown_of hb (hd _ rfl)⟩
end
section
open Go.RowKit Go.Maps
section
variable {P:Program} [Env P] {T:TT} {nt k:Nat} {S:AS} {ops:Array Oper} {o:Oper} {R:AS->Prop}
end
end
section
open Go.RowKit Go.Maps
def U4.toMv{w:World}{I:Nat->Prop}{m:Nat->Option Nat}{n:Nat}{b? :Option Nat}{kvs:List (AV×AV)}(h:U4 w I m n b? (.mp kvs)):U4 w I m n b? (.mv kvs):=by obtain⟨b,es,ck,e1,hh,hl,hr⟩:=h;exact⟨b,es,ck,e1,hh,hl,λi x p a c=>⟨(hr i x p a c).1,.pure (hr i x p a c).2⟩⟩
def U4.toMp{w:World}{I:Nat->Prop}{m:Nat->Option Nat}{n:Nat}{b? :Option Nat}{kvs:List (AV×AV)}(hp:kvs.all (λp=>p.2.pure)=true)(h:U4 w I m n b? (.mv kvs)):U4 w I m n b? (.mp kvs):=by obtain⟨b,es,ck,e1,hh,hl,hr⟩:=h;exact⟨b,es,ck,e1,hh,hl,λi x p a c=>⟨(hr i x p a c).1,(hr i x p a c).2.toPure (zW.1 hp p (zJ c))⟩⟩
section
variable {P:Program} [Env P] {T:TT} {nt k:Nat} {S:AS} {ops:Array Oper} {o:Oper} {R:AS->Prop} {Q:Exit->AS->Prop}
def d1f{cd:Code}{sl:List (Nat×AV)}{H:List AObj}(i:Nat){kvs:List (AV×AV)}(hi:H[i]?=some (.mp kvs))(h:AWP P nt k cd Q ⟨sl,H.set i (.mv kvs)⟩):AWP P nt k cd Q ⟨sl,H⟩:=
 λC a w hs=>h C a w (hs.swap hi rfl λ_ _ ho=>ho.toMv)
def j1a{cd:Code}{sl:List (Nat×AV)}{H:List AObj}(i:Nat){kvs:List (AV×AV)}(hi:H[i]?=some (.mv kvs))(hp:kvs.all (λp=>p.2.pure)=true)(h:AWP P nt k cd Q ⟨sl,H.set i (.mp kvs)⟩):AWP P nt k cd Q ⟨sl,H⟩:=
 λC a w hs=>h C a w (hs.swap hi rfl λ_ _ ho=>ho.toMp hp)
def Vk (hT:TOk P T) {wr:Bool} (hw:Qt ops S o=some true) (hd:Wq nt o=true) {t kt et:TypeId} {x ix:Operand} (ho:o.op= .lookup t x ix false) {it ei:TI} (ht:look T t=some it) (hit:it.desc= .map kt et) (he:look T et=some ei)
  (K:Keyed P kt) {id:Nat} (hx:rho S.sl x=some (.mref id)) {kx:AV} (zd:rho S.sl ix=some kx) {kvs:List (AV×AV)} (ze:S.hp[id]?=some (.mv kvs)) (zf:isKey P kt kx) (zg:∀p∈kvs,isKey P kt p.1) {z:AV} (hz:∀(w:World) (I:Nat->Prop),PVR w I ei.zero z)
  (zh:∀(j:Nat) (p:AV×AV),kvs[j]?=some p->p.1=kx->R (S.putD o.dst p.2)) (zi:(∀p∈kvs,p.1≠kx)->R (S.putD o.dst z)):Wb P nt k wr ops o S R:=λC a w K' Q hst hK=>by
 unfold OpW;rw[if_pos (hst.wanted hw)];obtain⟨I,m,z7,z6,hk,hE⟩:=hst;have z8:=hT.und ht;rw[hit]at z8;obtain⟨b,hb,_,zb⟩:=(Qr z6 hx).mref_inv;obtain⟨u,lk,hu,za⟩:=zf;have zj:kx.pure=true:=AV.kv_pure hu;have z1:=((Qr z6 zd).toPure zj).kv hu;obtain⟨b',es,ck,zc,hh,zk,hr⟩:=z7.obj id _ ze;have hl:=zk.size;obtain rfl:b=b':=by rw[hb]at zc;exact Option.some.inj zc
 have zl:=hT.zero he w;unfold wpA;rcases Ob K hl (λi e p a b=>(hr i e p a b).1) hu za zg with⟨h1,h2⟩|⟨j,e,p,h1,h2,h3,h4,h5⟩
 ·have:(execOp a.eval o).run P w= .ok (.value ei.zero) w:=by simp[execOp,ho,zb,z1,Instr.lookup,run_underlying z8,MapKept.run_getObj_map hh,K.check w _ za,h1,zl,Result.andThen]
  rw[this];exact hK _ _ w (zi h2) (St.value z6 hk hE z7 (Fut.refl _ _ _ _) (zQ _) (Qo hd) (.pure (hz w I))) (λ_=>Tl.refl w)
 have:(execOp a.eval o).run P w= .ok (.value e.val) w:=by simp[execOp,ho,zb,z1,Instr.lookup,run_underlying z8,MapKept.run_getObj_map hh,K.check w _ za,h1,Result.andThen]
 rw[this];exact hK _ _ w (zh j p h3 h4) (St.value z6 hk hE z7 (Fut.refl _ _ _ _) (zQ _) (Qo hd) (hr j e p h2 h3).2) (λ_=>Tl.refl w)
def Gv (hT:TOk P T) (hw:Qt ops S o=some true) (hd:Wq nt o=true) {t kt et:TypeId} {x ix y:Operand} (ho:o.op= .mapUpdate t x ix y) {it:TI} (ht:look T t=some it) (hit:it.desc= .map kt et)
  (K:Keyed P kt) {id:Nat} (hx:rho S.sl x=some (.mref id)) {kx:AV} (zm:rho S.sl ix=some kx) {vy:AV} (hy:rho S.sl y=some vy) {kvs:List (AV×AV)} (zf:S.hp[id]?=some (.mv kvs)) (zn:isKey P kt kx) (zo:∀p∈kvs,isKey P kt p.1)
  (zp:∀(j:Nat) (p:AV×AV),kvs[j]?=some p->p.1=kx->R (({ S with hp:=S.hp.set id (.mv (kvs.set j (kx,vy))) }:AS).putD o.dst (.tup [])))
  (zq:(∀p∈kvs,p.1≠kx)->R (({ S with hp:=S.hp.set id (.mv (kvs++[(kx,vy)])) }:AS).putD o.dst (.tup []))):Wb P nt k true ops o S R:=λC a w K' Q hst hK=>by
 unfold OpW;rw[if_pos (hst.wanted hw)];obtain⟨I,m,zg,zc,hk,hE⟩:=hst;have zh:=hT.und ht;rw[hit]at zh;obtain⟨b,hb,_,zk⟩:=(Qr zc hx).mref_inv;obtain⟨u,lk,hu,ze⟩:=zn;have zr:kx.pure=true:=AV.kv_pure hu;have zd:=(Qr zc zm).toPure zr;have zb:=zd.kv hu;have z7:PVR w I u kx:=by rw[<-zb];exact zd
 have hyp:=Qr zc hy;obtain⟨b',es,ck,zl,hh,zi,hr⟩:=zg.obj id _ zf;have hl:=zi.size;obtain rfl:b=b':=by rw[hb]at zl;exact Option.some.inj zl
 have z1:w.shape? b=none:=by simp[World.shape?,hh]
 have z8:∀o':Obj,w.grownBy { w with heap:=w.heap.setIfInBounds b o' } (some b):=λo'=>⟨rfl,rfl,rfl,by simp,λi _ hi=>by
  simp only[];rw[wW (λe=>hi (by rw[e]))]⟩
 have za:∀o':Obj,({ w with heap:=w.heap.setIfInBounds b o' }:World).heap[b]?=some o':=λo'=>by have:b<w.heap.size:=(yQ.1 hh).1;simp[this]
 unfold wpA;rcases Ob K hl (λi e p a b=>(hr i e p a b).1) hu ze zo with⟨h1,h2⟩|⟨j,e,p,h1,h2,h3,h4,h5⟩
 ·have:(execOp a.eval o).run P w= .ok .skip { w with heap:=w.heap.setIfInBounds b (.map (es.push ⟨u,a.eval y,ck⟩) (ck+1)) }:=by simp[execOp,ho,zk,zb,Instr.mapUpdate,run_underlying zh,MapKept.run_getObj_map hh,K.check w _ ze,h1,MapKept.run_setObj_map _ hh,Result.andThen]
  rw[this];obtain⟨g1,g2⟩:=zg.set (o':= .mv (kvs++[(kx,vy)])) zf rfl hb (z8 (.map (es.push ⟨u,a.eval y,ck⟩) (ck+1))) (λs hs=>by rw[z1]at hs;cases hs) (λm' hf=>⟨b,_,_,rfl,za _,zi.push _ _ _,λi e' p' he z6=>by
   rw[vI]at he;split at he
   ·rename_i hi;cases he;rw[zH (by omega)]at z6;have:i - kvs.length=0:=by omega
    rw[this]at z6;cases z6;exact⟨z7.mono hf.ext,hyp.mono hf (zQ _)⟩
   rename_i hi;have zt:i<es.size:=(yQ.1 he).1;rw[zF (by omega)]at z6;have:=hr i e' p' he z6;exact⟨this.1.mono hf.ext,this.2.mono hf (zQ _)⟩⟩)
  exact hK _ _ _ (zq h2) (St.value zc hk hE g1 g2 (by simp) (Qo hd) (Tv _ _ _ _)) (λe=>by cases e)
 have:(execOp a.eval o).run P w= .ok .skip { w with heap:=w.heap.setIfInBounds b (.map (es.modify j λe=>{ e with key:=u,val:=a.eval y }) ck) }:=by have zj:=K.stays w ze;simp[execOp,ho,zk,zb,Instr.mapUpdate,run_underlying zh,MapKept.run_getObj_map hh,K.check w _ ze,h1,h2,h5,zj,MapKept.run_setObj_map _ hh,Result.andThen]
 rw[this];obtain⟨g1,g2⟩:=zg.set (o':= .mv (kvs.set j (kx,vy))) zf rfl hb (z8 (.map (es.modify j λe=>{ e with key:=u,val:=a.eval y }) ck)) (λs hs=>by rw[z1]at hs;cases hs) (λm' hf=>⟨b,_,_,rfl,za _,zi.modify _ _ _ _,λi e' p' he z6=>by
  rw[wU]at he;by_cases hij:j=i
  ·subst hij;rw[if_pos rfl,h2]at he;rw[zL (zB.1 h3).1]at z6;cases he;cases z6;exact⟨z7.mono hf.ext,hyp.mono hf (zQ _)⟩
  rw[if_neg hij]at he;rw[zE hij]at z6;have:=hr i e' p' he z6;exact⟨this.1.mono hf.ext,this.2.mono hf (zQ _)⟩⟩)
 exact hK _ _ _ (zp j p h3 h4) (St.value zc hk hE g1 g2 (by simp) (Qo hd) (Tv _ _ _ _)) (λe=>by cases e)
end
end
end Go.Abs
namespace Go.Proofs
open Go.Shelf
def Tryz.lays189_ren:Go.Shelf.Ren:=⟨λ|189=>171|125=>199|257=>223|128=>244|129=>245|294=>253|295=>254|296=>255|297=>256|298=>257|299=>258|216=>259|300=>260|301=>261|328=>299|329=>292|330=>293|331=>300|332=>301|215=>200|343=>317|n=>n,λ|28=>47|3=>3|46=>189|0=>0|51=>255|53=>258|4=>4|183=>291|182=>290|131=>112|5=>5|9=>9|218=>327|222=>331|228=>349|229=>350|n=>n,λ|n=>n⟩
def Tryz.lays189:Go.Proofs.Lays.n189 prog Tryz.lays189_ren:={
 mixed:=by kernel_rfl
 f125:=func199.trans (congrArg some (by kernel_rfl))
 f128:=func244.trans (congrArg some (by kernel_rfl))
 f129:=func245.trans (congrArg some (by kernel_rfl))
 f189:=func171.trans (congrArg some (by kernel_rfl))
 f215:=func200.trans (congrArg some (by kernel_rfl))
 f216:=func259.trans (congrArg some (by kernel_rfl))
 f257:=func223.trans (congrArg some (by kernel_rfl))
 f294:=func253.trans (congrArg some (by kernel_rfl))
 f295:=func254.trans (congrArg some (by kernel_rfl))
 f296:=func255.trans (congrArg some (by kernel_rfl))
 f297:=func256.trans (congrArg some (by kernel_rfl))
 f298:=func257.trans (congrArg some (by kernel_rfl))
 f299:=func258.trans (congrArg some (by kernel_rfl))
 f300:=func260.trans (congrArg some (by kernel_rfl))
 f301:=func261.trans (congrArg some (by kernel_rfl))
 f328:=func299.trans (congrArg some (by kernel_rfl))
 f329:=func292.trans (congrArg some (by kernel_rfl))
 f330:=func293.trans (congrArg some (by kernel_rfl))
 f331:=func300.trans (congrArg some (by kernel_rfl))
 f332:=func301.trans (congrArg some (by kernel_rfl))
 f343:=func317.trans (congrArg some (by kernel_rfl))
 t0:=underlying0
 a0:=isAgg0
 z0:=sizeOf0
 v0:=zeroValue0
 t3:=underlying3
 a3:=isAgg3
 z3:=sizeOf3
 v3:=zeroValue3
 t4:=underlying4
 a4:=isAgg4
 z4:=sizeOf4
 v4:=zeroValue4
 t5:=underlying5
 a5:=isAgg5
 z5:=sizeOf5
 v5:=zeroValue5
 t9:=underlying9
 a9:=isAgg9
 z9:=sizeOf9
 v9:=zeroValue9
 t28:=underlying47
 a28:=isAgg47
 z28:=sizeOf47
 v28:=zeroValue47
 t46:=underlying189
 a46:=isAgg189
 z46:=sizeOf189
 v46:=zeroValue189
 t51:=underlying255
 a51:=isAgg255
 z51:=sizeOf255
 v51:=zeroValue255
 t53:=underlying258
 a53:=isAgg258
 z53:=sizeOf258
 v53:=zeroValue258
 t131:=underlying112
 a131:=isAgg112
 z131:=sizeOf112
 v131:=zeroValue112
 t182:=underlying290
 a182:=isAgg290
 z182:=sizeOf290
 v182:=zeroValue290
 t183:=underlying291
 a183:=isAgg291
 z183:=sizeOf291
 v183:=zeroValue291
 t218:=underlying327
 a218:=isAgg327
 z218:=sizeOf327
 v218:=zeroValue327
 t222:=underlying331
 a222:=isAgg331
 z222:=sizeOf331
 v222:=zeroValue331
 t228:=underlying349
 a228:=isAgg349
 z228:=sizeOf349
 v228:=zeroValue349
 t229:=underlying350
 a229:=isAgg350
 z229:=sizeOf350
 v229:=zeroValue350 }
open Go.Sort Go.RowKit in
def Tryz.slices_Sort_int(z1 off cap:Nat)(zs:List Int)(w:World)(hH:Holds (Value.int .i64) w z1 off zs.toArray)(hblk:z1<w.heap.size)(z6:zs.length<4611686018427387904):
  Calls prog 171 #[.slice (some ⟨z1,off,none⟩) zs.length cap] w λe w'=>
   e= .returned (.tuple #[])/\∃n os,w'=grow (putRow (Value.int .i64) (Sort.ahead w n) z1 off (zs.mergeSort λx y=>decide (x<=y)).toArray) os:=Any.slices_Sort_int Tryz.lays189 z1 off cap zs w hH hblk z6
open Go.RowKit Go.Sort in
def Tryz.slices_Sort_int_none(p:Option Addr)(cap:Nat)(w:World):
  Calls prog 171 #[.slice p 0 cap] w λe w'=>e= .returned (.tuple #[])/\w'=w:=Any.slices_Sort_int_none Tryz.lays189 p cap w
end Go.Proofs
namespace Go.Abs
open Go Go.Proofs
abbrev D2_:TI:={ desc:= .int .i64,zero:=(.int .i64 0),size:=1,bytes:=8 }
abbrev D3_:TI:={ desc:= .int .i64,zero:=(.int .i64 0),size:=1,bytes:=8 }
abbrev D4_:TI:={ desc:= .bool,zero:=(.bool false),size:=1,bytes:=1 }
abbrev D5_:TI:={ desc:= .int .u8,zero:=(.int .u8 0),size:=1,bytes:=1 }
abbrev D9_:TI:={ desc:= .string,zero:=(.string ⟨#[]⟩),size:=1,bytes:=16 }
abbrev j26:TI:={ desc:= .slice 4,zero:=(.slice none 0 0),size:=1,bytes:=24 }
abbrev j25:TI:={ desc:= .slice 73,zero:=(.slice none 0 0),size:=1,bytes:=24 }
abbrev j27:TI:={ desc:= .struct #[{ name:= "Types",type:=3,offset:=0,embedded:=false,tag:= "",pkgPath:= "",byteOffset:=0 },{ name:= "Finals",type:=22,offset:=1,embedded:=false,tag:= "",pkgPath:= "",byteOffset:=8 },{ name:= "Moves",type:=23,offset:=2,embedded:=false,tag:= "",pkgPath:= "",byteOffset:=32 }],zero:=(.agg #[(.int .i64 0),(.slice none 0 0),(.slice none 0 0)]),size:=3,bytes:=56 }
abbrev j2p:TI:={ desc:= .slice 52,zero:=(.slice none 0 0),size:=1,bytes:=24 }
abbrev j2w:TI:={ desc:= .int .i64,zero:=(.int .i64 0),size:=1,bytes:=8 }
abbrev g2f:TI:={ desc:= .slice 25,zero:=(.slice none 0 0),size:=1,bytes:=24 }
abbrev j2x:TI:={ desc:= .slice 66,zero:=(.slice none 0 0),size:=1,bytes:=24 }
abbrev j28:TI:={ desc:= .struct #[{ name:= "Verdict",type:=3,offset:=0,embedded:=false,tag:= "",pkgPath:= "",byteOffset:=0 },{ name:= "Pairs",type:=41,offset:=1,embedded:=false,tag:= "",pkgPath:= "",byteOffset:=8 },{ name:= "Word",type:=26,offset:=2,embedded:=false,tag:= "",pkgPath:= "",byteOffset:=32 }],zero:=(.agg #[(.int .i64 0),(.slice none 0 0),(.slice none 0 0)]),size:=3,bytes:=56 }
abbrev j22:TI:={ desc:= .slice 3,zero:=(.slice none 0 0),size:=1,bytes:=24 }
abbrev g2i:TI:={ desc:= .struct #[{ name:= "Type",type:=3,offset:=0,embedded:=false,tag:= "",pkgPath:= "",byteOffset:=0 },{ name:= "Num",type:=3,offset:=1,embedded:=false,tag:= "",pkgPath:= "",byteOffset:=8 }],zero:=(.agg #[(.int .i64 0),(.int .i64 0)]),size:=2,bytes:=16,eqv:=true }
abbrev g2h:TI:={ desc:= .array 2 3,zero:=(.agg #[(.int .i64 0),(.int .i64 0)]),size:=2,bytes:=16,eqv:=true }
abbrev j24:TI:={ desc:= .slice 145,zero:=(.slice none 0 0),size:=1,bytes:=24 }
abbrev j2v:TI:={ desc:= .struct #[{ name:= "Sets",type:=68,offset:=0,embedded:=false,tag:= "",pkgPath:= "",byteOffset:=0 }],zero:=(.agg #[(.slice none 0 0)]),size:=1,bytes:=24 }
abbrev j29:TI:={ desc:= .struct #[{ name:= "From",type:=3,offset:=0,embedded:=false,tag:= "",pkgPath:= "",byteOffset:=0 },{ name:= "To",type:=3,offset:=1,embedded:=false,tag:= "",pkgPath:= "",byteOffset:=8 },{ name:= "On",type:=70,offset:=2,embedded:=false,tag:= "",pkgPath:= "",byteOffset:=16 }],zero:=(.agg #[(.int .i64 0),(.int .i64 0),(.slice none 0 0)]),size:=3,bytes:=40 }
abbrev j2z:TI:={ desc:= .map 3 4,zero:=(.map none),size:=1,bytes:=8 }
abbrev f2w:TI:={ desc:= .func #[99] #[] false,zero:= .nilFunc,size:=1,bytes:=8 }
abbrev j23:TI:={ desc:= .pointer 91,zero:=(.pointer none),size:=1,bytes:=8 }
abbrev j21:TI:={ desc:= .slice 70,zero:=(.slice none 0 0),size:=1,bytes:=24 }
abbrev j2y:TI:={ desc:= .slice 47,zero:=(.slice none 0 0),size:=1,bytes:=24 }
abbrev j2t:TI:={ desc:= .map 9 3,zero:=(.map none),size:=1,bytes:=8 }
abbrev j2r:TI:={ desc:= .struct #[{ name:= "a",type:=25,offset:=0,embedded:=false,tag:= "",pkgPath:= "tidegate/determinize",byteOffset:=0 },{ name:= "classes",type:=87,offset:=3,embedded:=false,tag:= "",pkgPath:= "tidegate/determinize",byteOffset:=56 },{ name:= "sets",type:=88,offset:=4,embedded:=false,tag:= "",pkgPath:= "tidegate/determinize",byteOffset:=80 },{ name:= "number",type:=89,offset:=5,embedded:=false,tag:= "",pkgPath:= "tidegate/determinize",byteOffset:=104 }],zero:=(.agg #[(.int .i64 0),(.slice none 0 0),(.slice none 0 0),(.slice none 0 0),(.slice none 0 0),(.map none)]),size:=6,bytes:=112 }
abbrev f2m:TI:={ desc:= .func #[3] #[4] false,zero:= .nilFunc,size:=1,bytes:=8 }
abbrev g2m:TI:={ desc:= .func #[154] #[] false,zero:= .nilFunc,size:=1,bytes:=8 }
abbrev g2z:TI:={ desc:= .func #[73] #[4] false,zero:= .nilFunc,size:=1,bytes:=8 }
abbrev v1h:TI:={ desc:= .slice 23,zero:=(.slice none 0 0),size:=1,bytes:=24 }
abbrev v1p:TI:={ desc:= .struct #[{ name:= "Symbolic",type:=25,offset:=0,embedded:=true,tag:= "",pkgPath:= "",byteOffset:=0 },{ name:= "moves",type:=103,offset:=3,embedded:=false,tag:= "",pkgPath:= "tidegate/minimize",byteOffset:=56 }],zero:=(.agg #[(.int .i64 0),(.slice none 0 0),(.slice none 0 0),(.slice none 0 0)]),size:=4,bytes:=80 }
abbrev k1a:TI:={ desc:= .map 66 3,zero:=(.map none),size:=1,bytes:=8 }
abbrev u1l:TI:={ desc:= .map 3 3,zero:=(.map none),size:=1,bytes:=8 }
abbrev v2c:TI:={ desc:= .func #[4,4] #[4] false,zero:= .nilFunc,size:=1,bytes:=8 }
abbrev w2y:TI:={ desc:= .func #[196] #[] false,zero:= .nilFunc,size:=1,bytes:=8 }
abbrev u19:TI:={ desc:= .struct #[{ name:= "x",type:=52,offset:=0,embedded:=false,tag:= "",pkgPath:= "tidegate/minimize",byteOffset:=0 },{ name:= "p",type:=3,offset:=2,embedded:=false,tag:= "",pkgPath:= "tidegate/minimize",byteOffset:=16 },{ name:= "q",type:=3,offset:=3,embedded:=false,tag:= "",pkgPath:= "tidegate/minimize",byteOffset:=24 }],zero:=(.agg #[(.int .i64 0),(.int .i64 0),(.int .i64 0),(.int .i64 0)]),size:=4,bytes:=32,eqv:=true }
abbrev g1b:TI:={ desc:= .struct #[{ name:= "Low",type:=3,offset:=0,embedded:=false,tag:= "",pkgPath:= "",byteOffset:=0 },{ name:= "High",type:=3,offset:=1,embedded:=false,tag:= "",pkgPath:= "",byteOffset:=8 }],zero:=(.agg #[(.int .i64 0),(.int .i64 0)]),size:=2,bytes:=16,eqv:=true }
abbrev d1p:TI:={ desc:= .slice 144,zero:=(.slice none 0 0),size:=1,bytes:=24 }
abbrev y25:TI:={ desc:= .func #[3] #[145,29] false,zero:= .nilFunc,size:=1,bytes:=8 }
abbrev z2q:TI:={ desc:= .func #[145] #[4] false,zero:= .nilFunc,size:=1,bytes:=8 }
abbrev q2u:TI:={ desc:= .func #[242] #[] false,zero:= .nilFunc,size:=1,bytes:=8 }
abbrev g1k:TI:={ desc:= .map 66 4,zero:=(.map none),size:=1,bytes:=8 }
abbrev f1a:TI:={ desc:= .struct #[{ name:= "pair",type:=66,offset:=0,embedded:=false,tag:= "",pkgPath:= "tidegate/equivalence",byteOffset:=0 },{ name:= "from",type:=3,offset:=2,embedded:=false,tag:= "",pkgPath:= "tidegate/equivalence",byteOffset:=16 },{ name:= "on",type:=52,offset:=3,embedded:=false,tag:= "",pkgPath:= "tidegate/equivalence",byteOffset:=24 },{ name:= "first",type:=4,offset:=5,embedded:=false,tag:= "",pkgPath:= "tidegate/equivalence",byteOffset:=40 }],zero:=(.agg #[(.int .i64 0),(.int .i64 0),(.int .i64 0),(.int .i64 0),(.int .i64 0),(.bool false)]),size:=6,bytes:=48,eqv:=true }
abbrev k1q:TI:={ desc:= .slice 176,zero:=(.slice none 0 0),size:=1,bytes:=24 }
abbrev q2y:TI:={ desc:= .func #[244] #[] false,zero:= .nilFunc,size:=1,bytes:=8 }
abbrev k1e:TI:={ desc:= .struct #[{ name:= "on",type:=52,offset:=0,embedded:=false,tag:= "",pkgPath:= "tidegate/equivalence",byteOffset:=0 },{ name:= "to",type:=66,offset:=2,embedded:=false,tag:= "",pkgPath:= "tidegate/equivalence",byteOffset:=16 }],zero:=(.agg #[(.int .i64 0),(.int .i64 0),(.int .i64 0),(.int .i64 0)]),size:=4,bytes:=32,eqv:=true }
abbrev w29:TI:={ desc:= .int .u64,zero:=(.int .u64 0),size:=1,bytes:=8 }
abbrev j13:TI:={ desc:= .slice 5,zero:=(.slice none 0 0),size:=1,bytes:=24 }
abbrev g1q:TI:={ desc:= .map 3 87,zero:=(.map none),size:=1,bytes:=8 }
abbrev j1d:TI:={ desc:= .slice 184,zero:=(.slice none 0 0),size:=1,bytes:=24 }
abbrev x2d:TI:={ desc:= .func #[144,3] #[3] false,zero:= .nilFunc,size:=1,bytes:=8 }
abbrev x2a:TI:={ desc:= .func #[3,3] #[4] false,zero:= .nilFunc,size:=1,bytes:=8 }
abbrev f1z:TI:={ desc:= .slice 87,zero:=(.slice none 0 0),size:=1,bytes:=24 }
attribute [simp] D2_ D3_ D4_ D5_ D9_ j26 j25 j27 j2p j2w g2f j2x j28 j22 g2i g2h j24 j2v j29 j2z f2w j23 j21 j2y j2t j2r f2m g2m g2z v1h v1p k1a u1l v2c w2y u19 g1b d1p y25 z2q q2u g1k f1a k1q q2y k1e w29 j13 g1q j1d x2d x2a f1z
def T:TT:=[(2,D2_),(3,D3_),(4,D4_),(5,D5_),(9,D9_),(22,j26),(23,j25),(25,j27),(26,j2p),(29,j2w),(35,g2f),(41,j2x),(43,j28),(47,j22),(52,g2i),(66,g2h),(68,j24),(70,j2v),(73,j29),(79,j2z),(81,f2w),(84,j23),(87,j21),(88,j2y),(89,j2t),(91,j2r),(93,f2m),(95,g2m),(99,g2z),(103,v1h),(105,v1p),(109,k1a),(113,u1l),(122,v2c),(128,w2y),(131,u19),(144,g1b),(145,d1p),(148,y25),(159,z2q),(172,q2u),(174,g1k),(176,f1a),(177,k1q),(181,q2y),(184,k1e),(189,w29),(230,j13),(236,g1q),(245,j1d),(276,x2d),(279,x2a),(286,f1z)]
def W2(P:Program)(T:TT)(t:Nat)(i:TI):Prop:=P.underlying t=some i.desc/\(P.info? t).map (λj=>(j.zero,j.size,j.bytes))=some (some i.zero,i.size,i.bytes)/\
 (i.eqv=true->P.stoodInHeld t=false/\P.eqGuardType P.depth t=false)/\(∀fs,i.desc= .struct fs->Og T fs=true)
def d2r:W2 prog T 2 D2_:=
 ⟨by kernel_rfl,by kernel_rfl,λh=>(by simp at h),λfs h=>(by simp at h)⟩
def d2o:W2 prog T 3 D3_:=
 ⟨by kernel_rfl,by kernel_rfl,λh=>(by simp at h),λfs h=>(by simp at h)⟩
def d2t:W2 prog T 4 D4_:=
 ⟨by kernel_rfl,by kernel_rfl,λh=>(by simp at h),λfs h=>(by simp at h)⟩
def d2q:W2 prog T 5 D5_:=
 ⟨by kernel_rfl,by kernel_rfl,λh=>(by simp at h),λfs h=>(by simp at h)⟩
def d2v:W2 prog T 9 D9_:=
 ⟨by kernel_rfl,by kernel_rfl,λh=>(by simp at h),λfs h=>(by simp at h)⟩
def f2u:W2 prog T 22 j26:=
 ⟨by kernel_rfl,by kernel_rfl,λh=>(by simp at h),λfs h=>(by simp at h)⟩
def g2x:W2 prog T 23 j25:=
 ⟨by kernel_rfl,by kernel_rfl,λh=>(by simp at h),λfs h=>(by simp at h)⟩
def d2c:W2 prog T 25 j27:=
 ⟨by kernel_rfl,by kernel_rfl,λh=>(by simp at h),λfs h=>(by cases h;kernel_rfl)⟩
def d2a:W2 prog T 26 j2p:=
 ⟨by kernel_rfl,by kernel_rfl,λh=>(by simp at h),λfs h=>(by simp at h)⟩
def f2l:W2 prog T 29 j2w:=
 ⟨by kernel_rfl,by kernel_rfl,λh=>(by simp at h),λfs h=>(by simp at h)⟩
def g2o:W2 prog T 35 g2f:=
 ⟨by kernel_rfl,by kernel_rfl,λh=>(by simp at h),λfs h=>(by simp at h)⟩
def g2v:W2 prog T 41 j2x:=
 ⟨by kernel_rfl,by kernel_rfl,λh=>(by simp at h),λfs h=>(by simp at h)⟩
def g27:W2 prog T 43 j28:=
 ⟨by kernel_rfl,by kernel_rfl,λh=>(by simp at h),λfs h=>(by cases h;kernel_rfl)⟩
def g2n:W2 prog T 47 j22:=
 ⟨by kernel_rfl,by kernel_rfl,λh=>(by simp at h),λfs h=>(by simp at h)⟩
def g26:W2 prog T 52 g2i:=
 ⟨by kernel_rfl,by kernel_rfl,λ_=>⟨by kernel_rfl,by kernel_rfl⟩,λfs h=>(by cases h;kernel_rfl)⟩
def f2b:W2 prog T 66 g2h:=
 ⟨by kernel_rfl,by kernel_rfl,λ_=>⟨by kernel_rfl,by kernel_rfl⟩,λfs h=>(by simp at h)⟩
def g2w:W2 prog T 68 j24:=
 ⟨by kernel_rfl,by kernel_rfl,λh=>(by simp at h),λfs h=>(by simp at h)⟩
def g25:W2 prog T 70 j2v:=
 ⟨by kernel_rfl,by kernel_rfl,λh=>(by simp at h),λfs h=>(by cases h;kernel_rfl)⟩
def f2d:W2 prog T 73 j29:=
 ⟨by kernel_rfl,by kernel_rfl,λh=>(by simp at h),λfs h=>(by cases h;kernel_rfl)⟩
def g2q:W2 prog T 79 j2z:=
 ⟨by kernel_rfl,by kernel_rfl,λh=>(by simp at h),λfs h=>(by simp at h)⟩
def d2b:W2 prog T 81 f2w:=
 ⟨by kernel_rfl,by kernel_rfl,λh=>(by simp at h),λfs h=>(by simp at h)⟩
def d2e:W2 prog T 84 j23:=
 ⟨by kernel_rfl,by kernel_rfl,λh=>(by simp at h),λfs h=>(by simp at h)⟩
def f2z:W2 prog T 87 j21:=
 ⟨by kernel_rfl,by kernel_rfl,λh=>(by simp at h),λfs h=>(by simp at h)⟩
def g2l:W2 prog T 88 j2y:=
 ⟨by kernel_rfl,by kernel_rfl,λh=>(by simp at h),λfs h=>(by simp at h)⟩
def f2y:W2 prog T 89 j2t:=
 ⟨by kernel_rfl,by kernel_rfl,λh=>(by simp at h),λfs h=>(by simp at h)⟩
def f2q:W2 prog T 91 j2r:=
 ⟨by kernel_rfl,by kernel_rfl,λh=>(by simp at h),λfs h=>(by cases h;kernel_rfl)⟩
def f2f:W2 prog T 93 f2m:=
 ⟨by kernel_rfl,by kernel_rfl,λh=>(by simp at h),λfs h=>(by simp at h)⟩
def f2p:W2 prog T 95 g2m:=
 ⟨by kernel_rfl,by kernel_rfl,λh=>(by simp at h),λfs h=>(by simp at h)⟩
def f2i:W2 prog T 99 g2z:=
 ⟨by kernel_rfl,by kernel_rfl,λh=>(by simp at h),λfs h=>(by simp at h)⟩
def u2r:W2 prog T 103 v1h:=
 ⟨by kernel_rfl,by kernel_rfl,λh=>(by simp at h),λfs h=>(by simp at h)⟩
def u2g:W2 prog T 105 v1p:=
 ⟨by kernel_rfl,by kernel_rfl,λh=>(by simp at h),λfs h=>(by cases h;kernel_rfl)⟩
def u2p:W2 prog T 109 k1a:=
 ⟨by kernel_rfl,by kernel_rfl,λh=>(by simp at h),λfs h=>(by simp at h)⟩
def v2o:W2 prog T 113 u1l:=
 ⟨by kernel_rfl,by kernel_rfl,λh=>(by simp at h),λfs h=>(by simp at h)⟩
def k24:W2 prog T 122 v2c:=
 ⟨by kernel_rfl,by kernel_rfl,λh=>(by simp at h),λfs h=>(by simp at h)⟩
def v2w:W2 prog T 128 w2y:=
 ⟨by kernel_rfl,by kernel_rfl,λh=>(by simp at h),λfs h=>(by simp at h)⟩
def k2t:W2 prog T 131 u19:=
 ⟨by kernel_rfl,by kernel_rfl,λ_=>⟨by kernel_rfl,by kernel_rfl⟩,λfs h=>(by cases h;kernel_rfl)⟩
def u2b:W2 prog T 144 g1b:=
 ⟨by kernel_rfl,by kernel_rfl,λ_=>⟨by kernel_rfl,by kernel_rfl⟩,λfs h=>(by cases h;kernel_rfl)⟩
def k2l:W2 prog T 145 d1p:=
 ⟨by kernel_rfl,by kernel_rfl,λh=>(by simp at h),λfs h=>(by simp at h)⟩
def j2j:W2 prog T 148 y25:=
 ⟨by kernel_rfl,by kernel_rfl,λh=>(by simp at h),λfs h=>(by simp at h)⟩
def v29:W2 prog T 159 z2q:=
 ⟨by kernel_rfl,by kernel_rfl,λh=>(by simp at h),λfs h=>(by simp at h)⟩
def j2e:W2 prog T 172 q2u:=
 ⟨by kernel_rfl,by kernel_rfl,λh=>(by simp at h),λfs h=>(by simp at h)⟩
def j2n:W2 prog T 174 g1k:=
 ⟨by kernel_rfl,by kernel_rfl,λh=>(by simp at h),λfs h=>(by simp at h)⟩
def u22:W2 prog T 176 f1a:=
 ⟨by kernel_rfl,by kernel_rfl,λ_=>⟨by kernel_rfl,by kernel_rfl⟩,λfs h=>(by cases h;kernel_rfl)⟩
def u23:W2 prog T 177 k1q:=
 ⟨by kernel_rfl,by kernel_rfl,λh=>(by simp at h),λfs h=>(by simp at h)⟩
def j2c:W2 prog T 181 q2y:=
 ⟨by kernel_rfl,by kernel_rfl,λh=>(by simp at h),λfs h=>(by simp at h)⟩
def j2m:W2 prog T 184 k1e:=
 ⟨by kernel_rfl,by kernel_rfl,λ_=>⟨by kernel_rfl,by kernel_rfl⟩,λfs h=>(by cases h;kernel_rfl)⟩
def u2d:W2 prog T 189 w29:=
 ⟨by kernel_rfl,by kernel_rfl,λh=>(by simp at h),λfs h=>(by simp at h)⟩
def k2q:W2 prog T 230 j13:=
 ⟨by kernel_rfl,by kernel_rfl,λh=>(by simp at h),λfs h=>(by simp at h)⟩
def v2q:W2 prog T 236 g1q:=
 ⟨by kernel_rfl,by kernel_rfl,λh=>(by simp at h),λfs h=>(by simp at h)⟩
def k2z:W2 prog T 245 j1d:=
 ⟨by kernel_rfl,by kernel_rfl,λh=>(by simp at h),λfs h=>(by simp at h)⟩
def k26:W2 prog T 276 x2d:=
 ⟨by kernel_rfl,by kernel_rfl,λh=>(by simp at h),λfs h=>(by simp at h)⟩
def v2v:W2 prog T 279 x2a:=
 ⟨by kernel_rfl,by kernel_rfl,λh=>(by simp at h),λfs h=>(by simp at h)⟩
def v2n:W2 prog T 286 f1z:=
 ⟨by kernel_rfl,by kernel_rfl,λh=>(by simp at h),λfs h=>(by simp at h)⟩
theorem tOk:TOk prog T:=λt i h=>by
 have hm:=P7 h;simp only[T,List.mem_cons,List.not_mem_nil,or_false,Prod.mk.injEq]at hm;rcases hm with⟨rfl,rfl⟩|⟨rfl,rfl⟩|⟨rfl,rfl⟩|⟨rfl,rfl⟩|⟨rfl,rfl⟩|⟨rfl,rfl⟩|⟨rfl,rfl⟩|⟨rfl,rfl⟩|⟨rfl,rfl⟩|⟨rfl,rfl⟩|⟨rfl,rfl⟩|⟨rfl,rfl⟩|⟨rfl,rfl⟩|⟨rfl,rfl⟩|⟨rfl,rfl⟩|⟨rfl,rfl⟩|⟨rfl,rfl⟩|⟨rfl,rfl⟩|⟨rfl,rfl⟩|⟨rfl,rfl⟩|⟨rfl,rfl⟩|⟨rfl,rfl⟩|⟨rfl,rfl⟩|⟨rfl,rfl⟩|⟨rfl,rfl⟩|⟨rfl,rfl⟩|⟨rfl,rfl⟩|⟨rfl,rfl⟩|⟨rfl,rfl⟩|⟨rfl,rfl⟩|⟨rfl,rfl⟩|⟨rfl,rfl⟩|⟨rfl,rfl⟩|⟨rfl,rfl⟩|⟨rfl,rfl⟩|⟨rfl,rfl⟩|⟨rfl,rfl⟩|⟨rfl,rfl⟩|⟨rfl,rfl⟩|⟨rfl,rfl⟩|⟨rfl,rfl⟩|⟨rfl,rfl⟩|⟨rfl,rfl⟩|⟨rfl,rfl⟩|⟨rfl,rfl⟩|⟨rfl,rfl⟩|⟨rfl,rfl⟩|⟨rfl,rfl⟩|⟨rfl,rfl⟩|⟨rfl,rfl⟩|⟨rfl,rfl⟩|⟨rfl,rfl⟩|⟨rfl,rfl⟩
 ·exact d2r
 ·exact d2o
 ·exact d2t
 ·exact d2q
 ·exact d2v
 ·exact f2u
 ·exact g2x
 ·exact d2c
 ·exact d2a
 ·exact f2l
 ·exact g2o
 ·exact g2v
 ·exact g27
 ·exact g2n
 ·exact g26
 ·exact f2b
 ·exact g2w
 ·exact g25
 ·exact f2d
 ·exact g2q
 ·exact d2b
 ·exact d2e
 ·exact f2z
 ·exact g2l
 ·exact f2y
 ·exact f2q
 ·exact f2f
 ·exact f2p
 ·exact f2i
 ·exact u2r
 ·exact u2g
 ·exact u2p
 ·exact v2o
 ·exact k24
 ·exact v2w
 ·exact k2t
 ·exact u2b
 ·exact k2l
 ·exact j2j
 ·exact v29
 ·exact j2e
 ·exact j2n
 ·exact u22
 ·exact u23
 ·exact j2c
 ·exact j2m
 ·exact u2d
 ·exact k2q
 ·exact v2q
 ·exact k2z
 ·exact k26
 ·exact v2v
 exact v2n
def T2:look T 2=some D2_:=rfl
def T3:look T 3=some D3_:=rfl
def T4:look T 4=some D4_:=rfl
def T5:look T 5=some D5_:=rfl
def T9:look T 9=some D9_:=rfl
def T22:look T 22=some j26:=rfl
def T23:look T 23=some j25:=rfl
def T25:look T 25=some j27:=rfl
def T26:look T 26=some j2p:=rfl
def T29:look T 29=some j2w:=rfl
def T35:look T 35=some g2f:=rfl
def T41:look T 41=some j2x:=rfl
def T43:look T 43=some j28:=rfl
def T47:look T 47=some j22:=rfl
def T52:look T 52=some g2i:=rfl
def T66:look T 66=some g2h:=rfl
def T68:look T 68=some j24:=rfl
def T70:look T 70=some j2v:=rfl
def T73:look T 73=some j29:=rfl
def T79:look T 79=some j2z:=rfl
def T84:look T 84=some j23:=rfl
def T87:look T 87=some j21:=rfl
def T88:look T 88=some j2y:=rfl
def T89:look T 89=some j2t:=rfl
def T91:look T 91=some j2r:=rfl
def d2l:look T 103=some v1h:=rfl
def d2x:look T 105=some v1p:=rfl
def g2y:look T 109=some k1a:=rfl
def g29:look T 113=some u1l:=rfl
def d2s:look T 131=some u19:=rfl
def Fe:look T 144=some g1b:=rfl
def Ox:look T 145=some d1p:=rfl
def y2f:look T 174=some g1k:=rfl
def d2j:look T 176=some f1a:=rfl
def d2g:look T 177=some k1q:=rfl
def d2k:look T 184=some k1e:=rfl
def g2g:look T 230=some j13:=rfl
def g2b:look T 236=some g1q:=rfl
def d2i:look T 245=some j1d:=rfl
def d2w:look T 286=some f1z:=rfl
def mixed:prog.follows .mixedOrders=true:=by kernel_rfl
section
def Lx:List Value:=Lib.pow10Tab.map λz=>Value.int .u64 z
noncomputable instance env:Env prog:=⟨[(0,(·=Lx))]⟩
section
variable {P:Program} [Env P]
def ctA(P:Program)[Env P](T:TT)(nt k:Nat):Code->(Exit->AS->Prop)->AS->Option Prop
 |.seq x y,Q,S=>ctA P T nt k x (Se (AWP P nt k y Q) Q) S
 |.block i c,Q,S=>ctA P T nt k c (Xo i Q) S
 |.region _ ⟨l⟩ false,Q,S=>match Uu nt l with
  |true=>some (En P T nt k l.toArray (Q .normal) l S)
  |false=>none
 |.skip,Q,S=>some (Q .normal S)
 |.exit i,Q,S=>some (Q (.exit i) S)
 |.ret,Q,S=>some (Q .ret S)
 |_,_,_=>none
def x23{T:TT}{nt k:Nat}(hT:TOk P T){X:Prop}(x:X):∀(c:Code) (Q:Exit->AS->Prop) (S:AS),ctA P T nt k c Q S=some X->AWP P nt k c Q S
 |.seq _ _,_,S,h=>Eo (x23 hT x _ _ S h)
 |.block _ _,_,S,h=>Ti (x23 hT x _ _ S h)
 |.region i ⟨l⟩ false,Q,S,h=>by
  unfold ctA at h;split at h
  ·rename_i hd;cases h;exact Ra hT hd x
  cases h
 |.region _ ⟨_⟩ true,_,_,h=>nomatch h
 |.skip,_,_,h=>by cases h;exact Uv x
 |.exit _,_,_,h=>by cases h;exact x0z x
 |.ret,_,_,h=>by cases h;exact q1x x
 |.cond ..,_,_,h=>nomatch h
 |.loop ..,_,_,h=>nomatch h
 |.rangeFunc ..,_,_,h=>nomatch h
 |.scope ..,_,_,h=>nomatch h
 |.label ..,_,_,h=>nomatch h
 |.goto ..,_,_,h=>nomatch h
end
def cwA(P:Program)[Env P](nt k:Nat):Code->(Exit->AS->Prop)->AS->Prop
 |.seq x y,Q,S=>cwA P nt k x (Se (AWP P nt k y Q) Q) S
 |.block i c,Q,S=>cwA P nt k c (Xo i Q) S
 |c,Q,S=>AWP P nt k c Q S
def z2s{P:Program}[Env P]{nt k:Nat}:∀(c:Code) (Q:Exit->AS->Prop) (S:AS),cwA P nt k c Q S->AWP P nt k c Q S
 |.seq _ _,_,S,h=>Eo (z2s _ _ S h)
 |.block _ _,_,S,h=>Ti (z2s _ _ S h)
 |.region ..,_,_,h=>h
 |.skip,_,_,h=>h
 |.exit _,_,_,h=>h
 |.ret,_,_,h=>h
 |.cond ..,_,_,h=>h
 |.loop ..,_,_,h=>h
 |.rangeFunc ..,_,_,h=>h
 |.scope ..,_,_,h=>h
 |.label ..,_,_,h=>h
 |.goto ..,_,_,h=>h
 |.refuse _,_,_,h=>h
def f2g:Code->Bool
 |.seq ..=>true
 |.block ..=>true
 |_=>false
def csA(P:Program)[Env P](T:TT)(nt k:Nat)(c:Code)(Q:Exit->AS->Prop)(S:AS):Option Prop:=match ctA P T nt k c Q S with
 |some X=>some X
 |none=>match f2g c with
  |true=>some (cwA P nt k c Q S)
  |false=>none
def M_(p:Prop):Prop:=p
@[simp] theorem M_eq (p:Prop):M_ p=p:=rfl
def s_{nt k:Nat}{c:Code}{Q:Exit->AS->Prop}{S:AS}{X:Prop}(x:M_ X)(h:csA prog T nt k c Q S=some X:=by rfl):AWP prog nt k c Q S:=by
 unfold csA at h;split at h
 ·rename_i Y hY;cases h;exact x23 tOk x c Q S hY
 split at h
 ·cases h;exact z2s c Q S x
 cases h
def z1t{w:World}{I:Nat->Prop}(h:EOK prog w I):Lib.TabIs prog w "internal/strconv.uint64pow10" .u64 Lib.pow10Tab:=by
 obtain⟨_,_,t,fr,rfl,hb⟩:=h 0 (·=Lx) (by first|exact zP.2 rfl|exact List.mem_cons_self)
 unfold Lib.TabIs World.var?;rw[show prog.globalNamed "internal/strconv.uint64pow10" =some 0 by kernel_rfl]
 simp only[Option.bind_some,hb];rfl
end
section
attribute [simp] T3 T4 T5 T9 g2g T29 T2
def K6{α:Type}{c:Bool}{a b:α}(h:c=true):(if c=true then a else b)=a:=by rw[if_pos h]
def Oi{α:Type}{c:Bool}{a b:α}(h:c=false):(if c=true then a else b)=b:=by rw[if_neg (by rw[h];decide)]
@[simp] def encI (n:Int):AV:= .int .i64 n
abbrev AV.i (n:Int):AV:= .int .i64 n
abbrev W (n:Int):Int:=IntKind.i64.wrap n
def wrap_i64(n:Int)(h1: -9223372036854775808<=n)(h2:n<=9223372036854775807):IntKind.i64.wrap n=n:=by rw[IntKind.wrap_i64];omega
def wrap_one:IntKind.i64.wrap 1=1:=wrap_i64 _ (by omega) (by omega)
section
variable {P:Program} [Env P] {nt k:Nat} {S:AS} {ops:Array Oper} {o:Oper} {R:AS->Prop}
def pcL{wr:Bool}{f:FuncId}{xs args:List AV}{v:AV}(hc:PC P f args (λr=>r=v))(hR:R (S.putD o.dst v))(hw:Qt ops S o=some true:=by exact rfl)(h:Un S o.op=some (f,xs):=by exact rfl)(hp:xs.all AV.pure=true:=by simp)(he:xs.map AV.nrm=args:=by exact rfl)(hd:Wq nt o=true:=by exact rfl):Wb P nt k wr ops o S R:=
 v0y (Rf:=λr=>r=v) hw h hp (by rw[he];exact hc) hd (by intro r hr;subst hr;exact hR)
end
def pcB {f:FuncId} {fn:Func} {c:Code} {rs:List ResultVar} {n:Nat} {args:List AV} {R:AV->Prop} (hf:prog.funcs[f]?=some fn) (z1:fn.results=rs.toArray) (hn:fn.ntmps=n) (h:AWP prog n 0 c (z2g T rs λr H=>∃y,R8 H r=some y/\R y) ⟨Qe 0 args,[]⟩) (hb:fn.body=some c:=by exact rfl) (z6:(fn.name== "runtime.NumGoroutine")=false:=by exact rfl) (hl:Nat.ble args.length n=true:=by exact rfl):PC prog f args R:=by
 subst hn;exact v2a tOk hf hb z1 z6 (th hl) h
def fcB {f:FuncId} {fn:Func} {c:Code} {rs:List ResultVar} {n:Nat} {args:List AV} {H:List AObj} {R:AV->List AObj->Prop} (hf:prog.funcs[f]?=some fn) (z1:fn.results=rs.toArray) (hn:fn.ntmps=n) (h:AWP prog n H.length c (z2g T rs R) ⟨Qe 0 args,H⟩) (hb:fn.body=some c:=by exact rfl) (z6:(fn.name== "runtime.NumGoroutine")=false:=by exact rfl) (hl:Nat.ble args.length n=true:=by exact rfl):FC prog f args H R:=by
 subst hn;exact w2t tOk hf hb z1 z6 (th hl) h
section
variable {nt k:Nat} {S:AS} {ops:Array Oper} {o:Oper} {R:AS->Prop}
def apS {s x:Operand} {t e:TypeId} {it ei:TI} (ht:look T t=some it) (he:look T e=some ei) {sv xv:AV}
  (hR:match A6 S e ei.size sv,Jz S.hp xv with
   |some (xs,H1),some ys=>Wf ei xs ys/\R (({ S with hp:=H1++[.arr e ei.size (xs++ys)] }:AS).putD o.dst (.sl S.hp.length ei.size 0 (xs.length+ys.length)))
   |_,_=>False)
  (hw:Qt ops S o=some true:=by exact rfl) (ho:o.op= .call ⟨.builtin .append,#[s,x],#[t,t]⟩:=by exact rfl) (hit:it.desc= .slice e:=by exact rfl) (hz:ei.zero.cells.size=ei.size:=by exact rfl) (z1:0<ei.size:=by decide) (z6:0<ei.bytes:=by decide) (hs:rho S.sl s=some sv:=by exact rfl) (hx:rho S.sl x=some xv:=by exact rfl) (hd:Wq nt o=true:=by exact rfl):Wb prog nt k true ops o S R:=
 X2 tOk hw ho ht hit he hz z1 z6 hs hx hd hR
end
section
variable {P:Program} [Env P] {nt k:Nat} {Q:Exit->AS->Prop}
end
section
variable {P:Program} [Env P] {nt k:Nat} {Q:Exit->AS->Prop}
end
def Plan.pv:Nat->Nat->Plan->Plan
 |_,0,p=>p
 |i,n+1,p=> .val i (Plan.pv (i+1) n p)
attribute [simp] Plan.pv
def wz(n:Nat)(h:n<9223372036854775807):IntKind.i64.wrap ((n:Int)+1)=n+1:=wrap_i64 _ (by omega) (by omega)
end
section
attribute [simp] Fe Ox
structure Iv where
 lo:Int
 hi:Int
deriving Inhabited,DecidableEq
@[simp] def encIv (v:Iv):AV:= .agg [.int .i64 v.lo,.int .i64 v.hi]
abbrev LIv (l:List Iv):AV:= .list (l.map encIv)
def inB(n:Int):Bool:=decide (-1099511627776<=n) && decide (n<=1099511627776)
def G5(x:Iv):Int:=if(!inB x.lo || !inB x.hi)=true then 2 else if decide (x.hi<x.lo)=true then 3 else 0
def k21(a b:Int):(decide (a< -1099511627776) || decide (1099511627776<a) || decide (b< -1099511627776) || decide (1099511627776<b))=(!inB a || !inB b):=by unfold inB;rw[Bool.eq_iff_iff];simp;omega
def Ec(a:Int):inB a=true↔ -1099511627776<=a/\a<=1099511627776:=by simp[inB]
def x1f(x:Iv):PC prog 184 [encIv x] (λr=>r= .i (G5 x)):=by
 refine pcB func184 results184 ntmps184 ?_;simp only[Qe];simp only[encIv];repeat(refine s_ ?_;simp)
 rw[k21];refine Qa rfl (λh=>?_) (λh=>?_)
 ·repeat(refine s_ ?_;simp)
  rw[G5,K6 h]
 repeat(refine s_ ?_;simp)
 refine Qa rfl (λh1=>?_) (λh1=>?_)
 ·repeat(refine s_ ?_;simp)
  rw[G5,Oi h,K6 h1]
 repeat(refine s_ ?_;simp)
 rw[G5,Oi h,Oi h1]
def c0v(n:Int):PC prog 298 [.i n] (λr=>r= .bool (inB n)):=by
 refine pcB func298 results298 ntmps298 ?_;simp only[Qe];repeat(refine s_ ?_;simp)
 rfl
attribute [local irreducible] inB
def x2k(x:Iv):PC prog 251 [encIv x] (λr=>r= .i (G5 x)):=by
 refine pcB func251 results251 ntmps251 ?_;simp only[Qe];simp only[encIv];repeat(refine s_ ?_;simp)
 cases hp:inB x.lo with
 |false=>
  refine pcL (c0v x.lo) ?_;simp[hp];refine Qx rfl rfl ?_;simp;refine Qq rfl ?_;repeat(refine s_ ?_;simp)
  rw[G5,K6 (by rw[hp];rfl)]
 |true=>
  refine pcL (c0v x.lo) ?_;simp[hp];refine pcL (c0v x.hi) ?_;simp;have he:(!inB x.lo || !inB x.hi)= !inB x.hi:=by rw[hp];rfl
  refine Qa rfl (λh=>?_) (λh=>?_)
  ·repeat(refine s_ ?_;simp)
   rw[G5,he,K6 h]
  repeat(refine s_ ?_;simp)
  refine Qa rfl (λh1=>?_) (λh1=>?_)
  ·repeat(refine s_ ?_;simp)
   rw[G5,he,Oi h,K6 h1]
  repeat(refine s_ ?_;simp)
  rw[G5,he,Oi h,Oi h1]
def c0e(l:List Iv)(j:Nat)(x:Iv):Bool:=decide (0<j) && (match l[j - 1]? with|some y=>decide (x.lo<W (y.hi+2))|none=>false)
def O5(l:List Iv):Nat->List Iv->Int
 |_,[]=>0
 |j,x::r=>if(G5 x != 0)=true then G5 x else if c0e l j x=true then 14 else O5 l (j+1) r
def ckR(l:List Iv):Int:=if decide ((256:Int)<l.length)=true then 5 else O5 l 0 l
attribute [local irreducible] G5
def Wx{α:Type}{l:List α}{j:Nat}(h:j<l.length):l.drop j=l[j]::l.drop (j+1):=List.drop_eq_getElem_cons h
def y0e(l:List Iv):PC prog 121 [LIv l] (λr=>r= .i (ckR l)):=by
 refine pcB func121 results121 ntmps121 ?_;simp only[Qe];refine Yb 0 rfl (λhlen=>?_);rw[zY]at hlen;repeat(refine s_ ?_;simp)
 refine Qa rfl (λh=>?_) (λh=>?_)
 ·repeat(refine s_ ?_;simp)
  rw[ckR,K6 h]
 repeat(refine s_ ?_;simp)
 refine Qs l.length (λj=>O5 l 0 l=O5 l j (l.drop j)) (λj=>[(0,LIv l),(9,LIv l),(10,.i l.length),(11,.i j)]) (λ_=>[]) rfl (by simp) (by simp) (by simp) (by simp) (by simp) ?_;intro j hj hI ih;repeat(refine s_ ?_;simp)
 refine Qa rfl (λza=>?_) (λzb=>?_)
 ·have z1:j<l.length:=by simpa using za
  have hw:=wz j (by omega);rw[Wx z1,O5]at hI;repeat(refine s_ ?_;simp[z1])
  refine pcL (x1f l[j]) ?_;simp;repeat(refine s_ ?_;simp)
  refine Qa rfl (λh2=>?_) (λh2=>?_)
  ·repeat(refine s_ ?_;simp)
   rw[ckR,Oi h,hI,K6 h2]
  rw[Oi h2]at hI;repeat(refine s_ ?_;simp)
  rcases j with _|j
  ·refine Ql tOk mixed [] (.val 0 (.val 1 (.val 2 (.val 3 (.val 4 (.val 5 (.val 6 (.val 7 (.val 8 (.val 9 (.val 10 (.val 11 (.val 12 (.val 13 (.done))))))))))))))) rfl (by kernel_rfl) ?_;simp[z1];refine Qq rfl ?_;repeat(refine s_ ?_;simp[hw])
   refine Qp _ (ih z1 ?_) rfl (by simp) ?_ (by simp) (by simp)
   ·rw[hI,Oi (by simp[c0e])]
   simp[wrap_one]
  have z7:j<l.length:=by omega
  have z8:c0e l (j+1) l[j+1]=decide (l[j+1].lo<W (l[j].hi+2)):=by simp[c0e,z7]
  have zc:IntKind.i64.wrap ((j:Int)+1 - 1)=j:=by rw[wrap_i64 _ (by omega) (by omega)];omega
  have zd:IntKind.i64.wrap (j:Int)=j:=wrap_i64 _ (by omega) (by omega);have hp:(0:Int)<(j:Int)+1:=by omega
  have ze:IntKind.i64.wrap ((j:Int)+1+1)=j+1+1:=wrap_i64 _ (by omega) (by omega);have zf:((j:Int)+1).toNat=j+1:=by omega
  have zg:(0:Int)<=(j:Int)+1:=by omega
  have zh:(j:Int)+1<l.length:=by omega
  have zi:(j:Int)<l.length:=by omega
  refine Ql tOk mixed [] (.val 0 (.val 1 (.val 2 (.val 3 (.val 4 (.val 5 (.val 6 (.val 7 (.val 8 (.val 9 (.val 10 (.val 11 (.val 12 (.val 13 (.done))))))))))))))) rfl (by kernel_rfl) ?_;simp[z1,z7,zc,zd,hp,zf,zg,zh,zi];refine Qa rfl (λh3=>?_) (λh3=>?_)
  ·repeat(refine s_ ?_;simp)
   rw[ckR,Oi h,hI,K6 (by rw[z8];exact h3)]
  rw[Oi (by rw[z8];exact h3)]at hI;repeat(refine s_ ?_;simp[ze])
  refine Qp _ (ih z1 hI) rfl (by simp) ?_ (by simp) (by simp);simp
 have z6:j=l.length:=by simp at zb;omega
 subst z6;repeat(refine s_ ?_;simp)
 rw[ckR,Oi h,hI,xH];rfl
def z1v(l:List Iv):PC prog 217 [LIv l] (λr=>r= .i (ckR l)):=by
 refine pcB func217 results217 ntmps217 ?_;simp only[Qe];refine Yb 0 rfl (λhlen=>?_);rw[zY]at hlen;repeat(refine s_ ?_;simp)
 refine Qa rfl (λh=>?_) (λh=>?_)
 ·repeat(refine s_ ?_;simp)
  rw[ckR,K6 h]
 repeat(refine s_ ?_;simp)
 refine Qs l.length (λj=>O5 l 0 l=O5 l j (l.drop j)) (λj=>[(0,LIv l),(3,.i j)]) (λ_=>[]) rfl (by simp) (by simp) (by simp) (by simp) (by simp) ?_;intro j hj hI ih;repeat(refine s_ ?_;simp)
 refine Qa rfl (λza=>?_) (λzb=>?_)
 ·have z1:j<l.length:=by simpa using za
  have hw:=wz j (by omega);rw[Wx z1,O5]at hI;repeat(refine s_ ?_;simp[z1])
  refine pcL (x2k l[j]) ?_;simp;repeat(refine s_ ?_;simp)
  refine Qa rfl (λh2=>?_) (λh2=>?_)
  ·repeat(refine s_ ?_;simp)
   rw[ckR,Oi h,hI,K6 h2]
  rw[Oi h2]at hI;repeat(refine s_ ?_;simp)
  rcases j with _|j
  ·refine Ql tOk mixed [] (.val 0 (.val 1 (.val 2 (.val 3 (.val 4 (.val 5 (.val 6 (.val 7 (.val 8 (.val 9 (.val 10 (.val 11 (.val 12 (.val 13 (.val 14 (.val 15 (.val 16 (.done)))))))))))))))))) rfl (by kernel_rfl) ?_;simp[z1];refine Qq rfl ?_;repeat(refine s_ ?_;simp[hw])
   refine Qp _ (ih z1 ?_) rfl (by simp) ?_ (by simp) (by simp)
   ·rw[hI,Oi (by simp[c0e])]
   simp[wrap_one]
  have z7:j<l.length:=by omega
  have z8:c0e l (j+1) l[j+1]=decide (l[j+1].lo<W (l[j].hi+2)):=by simp[c0e,z7]
  have zc:IntKind.i64.wrap ((j:Int)+1 - 1)=j:=by rw[wrap_i64 _ (by omega) (by omega)];omega
  have zd:IntKind.i64.wrap (j:Int)=j:=wrap_i64 _ (by omega) (by omega);have hp:(0:Int)<(j:Int)+1:=by omega
  have ze:IntKind.i64.wrap ((j:Int)+1+1)=j+1+1:=wrap_i64 _ (by omega) (by omega);have zf:((j:Int)+1).toNat=j+1:=by omega
  have zg:(0:Int)<=(j:Int)+1:=by omega
  have zh:(j:Int)+1<l.length:=by omega
  have zi:(j:Int)<l.length:=by omega
  refine Ql tOk mixed [] (.val 0 (.val 1 (.val 2 (.val 3 (.val 4 (.val 5 (.val 6 (.val 7 (.val 8 (.val 9 (.val 10 (.val 11 (.val 12 (.val 13 (.val 14 (.val 15 (.val 16 (.done)))))))))))))))))) rfl (by kernel_rfl) ?_;simp[z1,z7,zc,zd,hp,zf,zg,zh,zi];refine Qa rfl (λh3=>?_) (λh3=>?_)
  ·repeat(refine s_ ?_;simp)
   rw[ckR,Oi h,hI,K6 (by rw[z8];exact h3)]
  rw[Oi (by rw[z8];exact h3)]at hI;repeat(refine s_ ?_;simp[ze])
  refine Qp _ (ih z1 hI) rfl (by simp) ?_ (by simp) (by simp);simp
 have z6:j=l.length:=by simp at zb;omega
 subst z6;repeat(refine s_ ?_;simp)
 rw[ckR,Oi h,hI,xH];rfl
end
def Qb{H:List AObj}{i:Nat}{x:AObj}(h:H[i]?=some x)(G:List AObj):(H++G)[i]?=some x:=by rw[zF (zB.1 h).1];exact h
def Qg{H:List AObj}{i:Nat}{x:AObj}(h:H[i]?=some x)(G:List AObj)(y:AObj):(H++G).set i y=H.set i y++G:=
 List.set_append_left _ _ (zB.1 h).1
def z2e(H:List AObj)(x:AObj)(G:List AObj):(H++x::G)[H.length]?=some x:=by simp
def Qd{H:List AObj}{i j:Nat}{x:AObj}(z1:j≠i)(h:H[i]?=some x)(y:AObj):(H.set j y)[i]?=some x:=by rw[zE z1];exact h
def Qh{H:List AObj}{i:Nat}{x:AObj}(h:H[i]?=some x)(y:AObj):(H.set i y)[i]?=some y:=zL (zB.1 h).1
def Jt{P:Program}[Env P]{f:Nat}{args:List AV}{H0:List AObj}{R:AV->List AObj->Prop}(h:∀H1,H1=H0->FC P f args H1 R):FC P f args H0 R:=h _ rfl
end Go.Abs
namespace Go.Proofs
open Go.Shelf
def Tryz.sortIv_ren:Go.Shelf.Ren:=⟨λ|6=>174|15=>199|14=>225|28=>244|29=>245|20=>263|21=>264|22=>265|23=>266|24=>267|25=>268|26=>269|27=>270|46=>306|47=>292|48=>293|49=>307|50=>308|57=>322|n=>n,λ|22=>145|24=>144|25=>233|3=>3|39=>189|0=>0|53=>255|55=>258|4=>4|46=>291|45=>290|50=>112|5=>5|9=>9|66=>327|70=>331|76=>349|77=>350|n=>n,λ|n=>n⟩
def Tryz.sortIv:Go.Proofs.SlLaysF0.n6 prog Tryz.sortIv_ren:={
 mixed:=by kernel_rfl
 f6:=⟨Tryz.f174.name,by decide,func174.trans (congrArg some (by kernel_rfl))⟩
 f14:=⟨Tryz.f225.name,by decide,func225.trans (congrArg some (by kernel_rfl))⟩
 f15:=func199.trans (congrArg some (by kernel_rfl))
 f20:=⟨Tryz.f263.name,by decide,func263.trans (congrArg some (by kernel_rfl))⟩
 f21:=⟨Tryz.f264.name,by decide,func264.trans (congrArg some (by kernel_rfl))⟩
 f22:=⟨Tryz.f265.name,by decide,func265.trans (congrArg some (by kernel_rfl))⟩
 f23:=⟨Tryz.f266.name,by decide,func266.trans (congrArg some (by kernel_rfl))⟩
 f24:=⟨Tryz.f267.name,by decide,func267.trans (congrArg some (by kernel_rfl))⟩
 f25:=⟨Tryz.f268.name,by decide,func268.trans (congrArg some (by kernel_rfl))⟩
 f26:=⟨Tryz.f269.name,by decide,func269.trans (congrArg some (by kernel_rfl))⟩
 f27:=⟨Tryz.f270.name,by decide,func270.trans (congrArg some (by kernel_rfl))⟩
 f28:=func244.trans (congrArg some (by kernel_rfl))
 f29:=func245.trans (congrArg some (by kernel_rfl))
 f46:=⟨Tryz.f306.name,by decide,func306.trans (congrArg some (by kernel_rfl))⟩
 f47:=func292.trans (congrArg some (by kernel_rfl))
 f48:=func293.trans (congrArg some (by kernel_rfl))
 f49:=⟨Tryz.f307.name,by decide,func307.trans (congrArg some (by kernel_rfl))⟩
 f50:=⟨Tryz.f308.name,by decide,func308.trans (congrArg some (by kernel_rfl))⟩
 f57:=⟨Tryz.f322.name,by decide,func322.trans (congrArg some (by kernel_rfl))⟩
 t0:=underlying0
 a0:=isAgg0
 z0:=sizeOf0
 v0:=zeroValue0
 t3:=underlying3
 a3:=isAgg3
 z3:=sizeOf3
 v3:=zeroValue3
 t4:=underlying4
 a4:=isAgg4
 z4:=sizeOf4
 v4:=zeroValue4
 t5:=underlying5
 a5:=isAgg5
 z5:=sizeOf5
 v5:=zeroValue5
 t9:=underlying9
 a9:=isAgg9
 z9:=sizeOf9
 v9:=zeroValue9
 t22:=underlying145
 a22:=isAgg145
 z22:=sizeOf145
 v22:=zeroValue145
 t25:=underlying233
 a25:=isAgg233
 z25:=sizeOf233
 v25:=zeroValue233
 t39:=underlying189
 a39:=isAgg189
 z39:=sizeOf189
 v39:=zeroValue189
 t45:=underlying290
 a45:=isAgg290
 z45:=sizeOf290
 v45:=zeroValue290
 t46:=underlying291
 a46:=isAgg291
 z46:=sizeOf291
 v46:=zeroValue291
 t50:=underlying112
 a50:=isAgg112
 z50:=sizeOf112
 v50:=zeroValue112
 t53:=underlying255
 a53:=isAgg255
 z53:=sizeOf255
 v53:=zeroValue255
 t55:=underlying258
 a55:=isAgg258
 z55:=sizeOf258
 v55:=zeroValue258
 t66:=underlying327
 a66:=isAgg327
 z66:=sizeOf327
 v66:=zeroValue327
 t70:=underlying331
 a70:=isAgg331
 z70:=sizeOf331
 v70:=zeroValue331
 t76:=underlying349
 a76:=isAgg349
 z76:=sizeOf349
 v76:=zeroValue349
 t77:=underlying350
 a77:=isAgg350
 z77:=sizeOf350
 v77:=zeroValue350 }
def Tryz.laysNm220_ren:Go.Shelf.Ren:=⟨λ|20=>172|n=>n,λ|22=>47|3=>3|4=>4|0=>0|n=>n,λ|n=>n⟩
def Tryz.laysNm220:Go.Proofs.Lays2.n20 prog Tryz.laysNm220_ren:={
 mixed:=by kernel_rfl
 f20:=func172.trans (congrArg some (by kernel_rfl))
 t0:=underlying0
 a0:=isAgg0
 z0:=sizeOf0
 v0:=zeroValue0
 t3:=underlying3
 a3:=isAgg3
 z3:=sizeOf3
 v3:=zeroValue3
 t4:=underlying4
 a4:=isAgg4
 z4:=sizeOf4
 v4:=zeroValue4
 t22:=underlying47
 a22:=isAgg47
 z22:=sizeOf47
 v22:=zeroValue47
 i3:=by kernel_rfl }
open Go.RowKit Go.Lib Go.Sort in
def Tryz.slices_Compact_int(z1 off cap:Nat)(zs:List Int)(w:World)(hH:Holds (Value.int .i64) w z1 off zs.toArray)(z6:zs.length<=9223372036854775807)(hcap:zs.length<=cap):
  Calls prog 172 #[.slice (some ⟨z1,off,none⟩) zs.length cap] w λe w'=>e= .returned (.slice (some ⟨z1,off,none⟩) (Lib.compact zs).length cap)/\∃q,w'=putRow (Value.int .i64) (Sort.ahead w q) z1 off (Lib.compact zs++yI (zs.length - (Lib.compact zs).length) 0).toArray:=Any.slices_Compact_int Tryz.laysNm220 z1 off cap zs w hH z6 hcap
open Go.RowKit Go.Lib Go.Sort in
def Tryz.slices_Compact_int_empty(a:Option Addr)(cap:Nat)(w:World):
  Calls prog 172 #[.slice a 0 cap] w λe w'=>e= .returned (.slice a 0 cap)/\w'=w:=Any.slices_Compact_int_empty Tryz.laysNm220 a cap w
def Tryz.laysSlC25_f133_ren:Go.Shelf.Ren:=⟨λ|5=>133|7=>200|n=>n,λ|22=>3|3=>3|4=>4|n=>n,λ|n=>n⟩
def Tryz.laysSlC25_f133:Go.Proofs.SlLaysC2.n5 prog Tryz.laysSlC25_f133_ren:={
 mixed:=by kernel_rfl
 f5:=⟨Tryz.f133.name,by decide,func133.trans (congrArg some (by kernel_rfl))⟩
 f7:=⟨Tryz.f200.name,by decide,func200.trans (congrArg some (by kernel_rfl))⟩
 t3:=underlying3
 a3:=isAgg3
 z3:=sizeOf3
 v3:=zeroValue3
 t4:=underlying4
 a4:=isAgg4
 z4:=sizeOf4
 v4:=zeroValue4
 t22:=underlying3
 a22:=isAgg3
 z22:=sizeOf3
 v22:=zeroValue3 }
open Go.Lib in
def Tryz.cmp_Compare_int(x y:Int)(w:World):
  Calls prog 133 #[.int .i64 x,.int .i64 y] w λe w'=>e= .returned (.int .i64 (Lib.compareInt x y))/\w'=w:=AnyG.cmp_Compare_int Tryz.laysSlC25_f133 x y w
end Go.Proofs
namespace Go.Abs
open Go Go.Proofs
section
open Go.RowKit Go.Shelf Go.Lib Go.Sort
def Zs(x:Iv):List Value:=[.int .i64 x.lo,.int .i64 x.hi]
def j2q(x y:Iv):ltOf (λx y:Iv=>Lib.compareInt x.lo y.lo) x y=decide (x.lo<y.lo):=by
 unfold ltOf Lib.compareInt;by_cases h1:x.lo<y.lo
 ·simp[h1]
 by_cases h2:y.lo<x.lo<;>simp[h1,h2]
def g2p:SWO (ltOf λx y:Iv=>Lib.compareInt x.lo y.lo) where
 irrefl x:=by rw[j2q];simp
 trans x y z h1 h2:=by rw[j2q]at *;simp at *;omega
 ntrans x y z h1 h2:=by rw[j2q]at *;simp at *;omega
def k23(l:List Iv):RowOf 2 (l.map encIv) (flatK Zs 2 l.toArray) where
 size:=by simp
 width x hx:=by obtain⟨y,_,rfl⟩:=zO.1 hx;rfl
 cell i x hx j y hy:=by
  rw[zU]at hx;obtain⟨z,hz,rfl⟩:=zS.1 hx;obtain⟨hi,rfl⟩:=zB.1 hz;have hj:j<2:=(zB.1 hy).1;rw[get_flatK _ _ _ _ (by simp;omega)];rw[show(i * 2+j) / 2=i by omega,show(i * 2+j) % 2=j by omega];rw[getElem!_pos l.toArray i (by simpa using hi)]
  match j,hj with
  |0,_=>simp[encIv,AV.cells]at hy;subst hy;rfl
  |1,_=>simp[encIv,AV.cells]at hy;subst hy;rfl
def VR.fn0{w:World}{I:Nat->Prop}{m:Nat->Option Nat}{n g:Nat}{v:Value}(h:VR w I m n v (.fn (.func g) [] [])):v= .func (.func g) #[] #[]:=by
 cases h with
 |pure h=>
  cases h with
  |fn f vs us xs ys hl h hl' h'=>obtain rfl:vs= #[]:=vP.1 (by simpa using hl);obtain rfl:us= #[]:=vP.1 (by simpa using hl');rfl
 |fn f vs us xs ys hl h hl' h'=>obtain rfl:vs= #[]:=vP.1 (by simpa using hl);obtain rfl:us= #[]:=vP.1 (by simpa using hl');rfl
def K0(g:Nat)(w:World)(I:Nat->Prop)(m:Nat->Option Nat)(n:Nat)(vs:List Value)(hl:vs.length=[AV.fn (.func g) [] []].length)(h:∀(i:Nat) (v:Value) (x:AV),vs[i]?=some v->[AV.fn (.func g) [] []][i]?=some x->VR w I m n v x):vs=[.func (.func g) #[] #[]]:=by
 match vs,hl with
 |[v],_=>have:=h 0 v _ rfl rfl;rw[VR.fn0 this]
def Br(l:List Iv):Prop:=l.Pairwise (λx y=>x.lo<=y.lo)
end
def W6:List Iv->Iv->List Iv
 |acc,x=>match acc.getLast? with
  |some y=>if x.lo<=y.hi+1 then acc.dropLast++[⟨y.lo,if y.hi<x.hi then x.hi else y.hi⟩]else acc++[x]
  |none=>[x]
def Oh(x:Iv):Prop:=inB x.lo=true/\inB x.hi=true
section
def Qv(acc l:List Iv):List Iv:=l.foldl W6 acc
def Na{x:Iv}(h:G5 x=0):Oh x/\x.lo<=x.hi:=by
 unfold G5 at h;by_cases h1:(!inB x.lo || !inB x.hi)=true
 ·rw[if_pos h1]at h;cases h
 rw[if_neg h1]at h;by_cases h2:decide (x.hi<x.lo)=true
 ·rw[if_pos h2]at h;cases h
 exact⟨by simpa[Oh]using h1,by simpa using h2⟩
def q2s{acc:List Iv}{x:Iv}(ha:∀y∈acc,Oh y)(hx:Oh x):∀y∈W6 acc x,Oh y:=by
 rcases vD acc with rfl|⟨ini,z,rfl⟩
 ·simpa[W6]using hx
 have hz:=ha z (by simp);have hi:∀y∈ini,Oh y:=λy hy=>ha y (by simp[hy]);intro y hy;simp only[W6,vE,tj,uV,tH,tk]at hy;split at hy
 ·rcases zV.1 hy with h|h
  ·exact hi y h
  simp at h;subst h;refine⟨hz.1,?_⟩;simp only;split
  ·exact hx.2
  exact hz.2
 rcases zV.1 hy with h|h
 ·rcases zV.1 h with h|h
  ·exact hi y h
  simp at h;subst h;exact hz
 simp at h;subst h;exact hx
def g1l(acc:List Iv)(x:Iv):(W6 acc x).length<=acc.length+1:=by
 rcases vD acc with rfl|⟨ini,z,rfl⟩
 ·simp[W6]
 simp only[W6,vE,tj,uV,tH,tk];split<;>simp
def Iz(acc l:List Iv)(x:Iv):Qv acc (l++[x])=W6 (Qv acc l) x:=by simp[Qv]
def R6:∀(l acc:List Iv),(Qv acc l).length<=acc.length+l.length
 |[],acc=>by simp[Qv]
 |x::r,acc=>by have:=R6 r (W6 acc x);have:=g1l acc x;simp only[Qv,xS,yV]at *;omega
def Pp:∀(l acc:List Iv),(∀y∈acc,Oh y)->(∀y∈l,Oh y)->∀y∈Qv acc l,Oh y
 |[],acc,h,_=>by simpa[Qv]using h
 |x::r,acc,h,hl=>Pp r (W6 acc x) (q2s h (hl x (by simp))) (λy hy=>hl y (by simp[hy]))
attribute [local irreducible] G5
end
def k2o(s:List Iv)(j:Nat)(x:Iv):Bool:=match s[j]? with|some y=>decide (x.lo<y.lo)|none=>false
def Yn(s:List Iv)(x:Iv):Nat->Nat
 |0=>0
 |j+1=>if k2o s j x=true then Yn s x j else j+1
def V4(s:List Iv)(x:Iv):List Iv:=s.take (Yn s x s.length)++x::s.drop (Yn s x s.length)
def E8(l:List Iv):List Iv:=l.foldl V4 []
def Hu(s:List Iv)(x:Iv):∀j,Yn s x j<=j
 |0=>zQ _
 |j+1=>by
  rw[Yn];split
  ·exact Nat.le_succ_of_le (Hu s x j)
  exact zQ _
def u1v(s:List Iv)(x:Iv):(V4 s x).length=s.length+1:=by have:=Hu s x s.length;simp[V4];omega
def k0p(l:List Iv)(x:Iv):E8 (l++[x])=V4 (E8 l) x:=by simp[E8]
def Za:∀(l acc:List Iv),(l.foldl V4 acc).length=acc.length+l.length
 |[],acc=>by simp
 |x::r,acc=>by rw[xS,Za r,u1v,yV];omega
def K5(l:List Iv):(E8 l).length=l.length:=by rw[E8,Za];simp
def d0i(l:List Iv)(hl:l.length<=1000000000):PC prog 297 [LIv l] (λr=>r=LIv (E8 l)):=by
 refine pcB func297 results297 ntmps297 ?_;simp only[Qe];repeat(refine s_ ?_;simp)
 refine w0x 3 rfl ?_;simp;refine Qs l.length (λ_=>True) (λj=>[(0,LIv l),(3,LIv (E8 (l.take j))),(4,.i j)]) (λ_=>[]) rfl (by simp) (by simp[E8]) (by simp) (by simp) trivial ?_;intro j hj _ ih;obtain⟨s,hs⟩:∃s,E8 (l.take j)=s:=⟨_,rfl⟩
 have zj:s.length=j:=by rw[<-hs,K5,List.length_take];omega
 rw[hs];repeat(refine s_ ?_;simp)
 refine Qa rfl (λzd=>?_) (λze=>?_)
 ·have z1:j<l.length:=by simpa using zd
  have hw:=wz j (by omega);have za:E8 (l.take (j+1))=V4 s l[j]:=by rw[List.take_succ_eq_append_getElem z1,k0p,hs]
  repeat(refine s_ ?_;simp)
  obtain⟨q,hq⟩:∃q,Yn s l[j] s.length=q:=⟨_,rfl⟩
  refine Qj (Qc (sl':=[(0,LIv l),(3,LIv s),(4,.i j),(5,.i s.length)]) ?_ (by simp));refine Qi (F:=λ(u:Nat)=>⟨[(0,LIv l),(3,LIv s),(4,.i j),(5,.i u)],[]⟩) (λu=>u<=s.length/\Yn s l[j] u=q) (λu=>u) ?_ s.length ⟨zQ _,hq⟩;rintro u ⟨hu,hI⟩ ih2;repeat(refine s_ ?_;simp)
  rcases u with _|u
  ·have zf:IntKind.i64.wrap (-1)= -1:=by decide
   refine Ql tOk mixed [] (.val 0 (.val 1 (.val 2 (.val 3 (.val 4 (.val 5 (.val 6 (.val 7 (.val 8 (.val 9 (.val 10 (.val 11 (.val 12 (.val 13 (.val 14 (.val 15 (.done))))))))))))))))) rfl (by kernel_rfl) ?_;simp[zf,z1];refine Qq rfl ?_;repeat(refine s_ ?_;simp)
   have zg:q=0:=hI.symm;subst zg;refine apS Ox Fe ?_;simp[z1];refine⟨by simp[Wf,z1]<;>omega,?_⟩;repeat(refine s_ ?_;simp[z1,z1])
   refine apS Ox Fe ?_;simp[z1];refine⟨by simp[Wf,z1]<;>omega,?_⟩;repeat(refine s_ ?_;simp[z1,z1])
   refine apS Ox Fe ?_;simp[z1];refine⟨by simp[Wf,z1]<;>omega,?_⟩;repeat(refine s_ ?_;simp[z1,hw])
   refine F7 4 rfl ?_;simp[z1];refine Qp _ (ih z1 trivial) rfl (by simp) ?_ (by simp) (by simp);rw[za];simp;rw[zT (by simp;omega)];rw[if_pos (by omega)]
   subst_vars
   simp[V4, *]
  have zb:u<s.length:=by omega
  have zc:IntKind.i64.wrap (u:Int)=u:=wrap_i64 _ (by omega) (by omega);have zh:(u:Int)<s.length:=by omega
  have zi:k2o s u l[j]=decide (l[j].lo<s[u].lo):=by simp[k2o,zb]
  rw[Yn,zi]at hI;refine Ql tOk mixed [] (.val 0 (.val 1 (.val 2 (.val 3 (.val 4 (.val 5 (.val 6 (.val 7 (.val 8 (.val 9 (.val 10 (.val 11 (.val 12 (.val 13 (.val 14 (.val 15 (.done))))))))))))))))) rfl (by kernel_rfl) ?_;simp[zb,z1,zc,zh];refine Qa rfl (λh1=>?_) (λh1=>?_)
  ·rw[if_pos h1]at hI;repeat(refine s_ ?_;simp[zc])
   exact Qc (sl':=[(0,LIv l),(3,LIv s),(4,.i j),(5,.i u)]) (ih2 u ⟨by omega,hI⟩ (by omega)) (by simp)
  rw[if_neg (by simpa using h1)]at hI;have z6:(u:Int)+1<=s.length:=by omega
  have z7:(0:Int)<=(u:Int)+1:=by omega
  repeat(refine s_ ?_;simp[z6,z7])
  refine apS Ox Fe ?_;simp[z6,z7,-xK,<-xK,-xL,<-xL];refine⟨by simp[Wf,z6,z7,-xK,<-xK,-xL,<-xL]<;>omega,?_⟩;repeat(refine s_ ?_;simp[z1,z6,z7,-xK,<-xK,-xL,<-xL])
  refine apS Ox Fe ?_;simp[z6,z7,-xK,<-xK,-xL,<-xL];refine⟨by simp[Wf,z6,z7,-xK,<-xK,-xL,<-xL]<;>omega,?_⟩;repeat(refine s_ ?_;simp[z1,z6,z7,-xK,<-xK,-xL,<-xL])
  refine apS Ox Fe ?_;simp[z6,z7,-xK,<-xK,-xL,<-xL];refine⟨by simp[Wf,z6,z7,-xK,<-xK,-xL,<-xL]<;>omega,?_⟩;repeat(refine s_ ?_;simp[z6,z7,-xK,<-xK,-xL,<-xL,hw])
  refine F7 4 rfl ?_;simp[z6,z7,-xK,<-xK,-xL,<-xL];refine Qp _ (ih z1 trivial) rfl (by simp) ?_ (by simp) (by simp);rw[za];simp;rw[zT (by simp;omega)];rw[if_pos (by omega)]
  subst_vars
  simp[V4, *]
 have z8:j=l.length:=by simp at ze;omega
 subst z8;repeat(refine s_ ?_;simp)
 rw[<-hs,List.take_length]
end Go.Abs
