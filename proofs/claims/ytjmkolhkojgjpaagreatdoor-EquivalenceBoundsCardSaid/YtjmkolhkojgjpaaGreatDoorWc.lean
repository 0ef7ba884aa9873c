/- Part Wc of the proof: steps on the way to the last part. No condition. -/
import Derived.Test.YtjmkolhkojgjpaaGreatDoorWb
import Derived.Lib.MakeNoZero
import Derived.Carry
import Derived.Maps.Keyed
import Derived.Laws.MakeOwn
import Derived.Calls
import Derived.RunT
import Derived.Lone
import Derived.Shelf.Sort.Plain
import Derived.Shelf.Slices.In.SortNone
import Derived.Ground.SlgcProg
import Derived.Shelf.SlicesG.Cmp
import Derived.Test.YtjmkolhkojgjpaaGreatDoorProg
import Derived.Test.YtjmkolhkojgjpaaGreatDoorChecked
import Derived.KernelRfl
import Derived.Lib.LaidTab
import Derived.Lib.ItoaNum
import Derived.Test.YtjmkolhkojgjpaaGreatDoorWa
import Derived.Shelf.SlGeneric
import Derived.Ground.SlsfProg
import Derived.Shelf.SlSortCmp.WholeK
import Derived.Ground.Names2Prog
import Derived.Shelf.Slices.CompactI
import Derived.Shelf.Slices.Cells
set_option linter.all false
open Int renaming natCast_mul->si
open List renaming replicate->yF,length_map->yE,eq_of_mem_replicate->vQ,getElem?_replicate->vF,getElem?_eq_some_iff->zB,getElem?_map->zU,ext_getElem?->xL,getElem?_set_self->zK,getElem?_set_ne->zE,mem_of_mem_take->xY,getElem?_take->xP,mem_map->zO,size_toArray->xS,mem_append->zV,mem_singleton->zP,map_cons->xJ,mem_map_of_mem->uy,all_eq_true->zX,mem_iff_getElem?->yO,getElem_of_mem->yX,mem_of_getElem?->zJ,getElem_mem->zL,getElem?_append_right->zF,getElem?_append_left->zH,mem_of_mem_drop->uB,getElem?_drop->xN,getElem?_eq_getElem->zI,eq_nil_of_length_eq_zero->wI,nodup_cons->u_,filter_cons->tS,length_eraseIdx->uD,getElem?_eraseIdx->tg,drop_length->xX,eq_nil_or_concat->wT,concat_eq_append->wU,getLast?_append->tv,getLast?_singleton->tc,dropLast_concat->tw,foldl_cons->xV,length_cons->yZ
open Array renaming size_append->wX,length_toList->wK,getElem?_append_left->xB,getElem?_eq_getElem->xG,ext->sA,toList_push->tE,getElem?_toList->wp,getElem?_modify->vz,getElem?_eq_some_iff->yT,getElem_toList->tp,getElem?_setIfInBounds_ne->wW,getElem?_push->vN,mem_of_getElem?->uv,replicate->v_,getD_eq_getD_getElem?->wO,getElem?_append_right->u7,size_eq_zero_iff->vS
open Nat renaming add_mul->yS,le_refl->zS,mul_le_mul_right->yI,mod_eq_of_lt->tY,zero_add->xZ,zero_mul->uU,le_trans->yP,eq_zero_or_pos->wY,le_succ->ul,le_of_eq->sw,one_mul->sh,le_of_ble_eq_true->tu
open Option renaming map_eq_some_iff->zQ,map_some->wC,getD_some->ww,some_or->tT
open Bool renaming and_eq_true->z_
set_option maxHeartbeats 1000000
set_option linter.unusedSimpArgs false
set_option maxRecDepth 100000
open Go.Proofs.Tryz
namespace Go.Abs
open Go
section
open Go.RowKit
section
variable {P:Program} [Env P] {T:TT} {nt k:Nat} {S:AS} {ops:Array Oper} {o:Oper} {R:AS->Prop} {Q:Exit->AS->Prop}
def Sp {w:World} (t tn ty e:TypeId) (i:TypeInfo) (z:Value) (kk kn:IntKind) (ht:P.underlying t=some (.slice e)) (zb:P.underlying tn=some (.int kn)) (hi:P.info? e=some i) (hz:i.zero=some z)
  (n:Nat) (h0:0<n) (hs:0<i.size) (ze:(n:Int)<=9223372036854775807) (zf:n * i.bytes<=281474976710656) (zc:Builtin.nextslicecap n 0 * i.bytes<=281474976710656):
  (Builtin.append_ #[t,tn] ty #[.slice none 0 0,.int kk n]).run P w=
   .ok (.slice (some ⟨w.heap.size,0,none⟩) n (grownCap w n 0 e))
    (w.drew.alloc (.cells (Builtin.zeroCells z.cells n++Builtin.zeroCells z.cells (grownCap w n 0 e - n)) e)):=by
 have hn:n≠0:=by omega
 have hw:IntKind.i64.wrap (n:Int)=n:=by rw[IntKind.wrap_i64];omega
 have z6:¬(9223372036854775807<((0:Int)+(n:Int))):=by omega
 have z1:¬(9223372036854775807<(n:Int)):=by omega
 have z7:¬(281474976710656<Builtin.nextslicecap n 0 * i.bytes):=by omega
 have z8:¬(281474976710656<(n:Int) * (i.bytes:Int)):=by rw[<-si];omega
 have za:¬((n:Int)<0):=by omega
 have zd:¬(n * i.size=0):=Nat.mul_ne_zero hn (by omega);simp[Builtin.append_,run_underlying ht,run_underlying zb,sizeOf,typeInfo,zeroValue,hi,hz,asInt,asIntOf,hw,hn,za,zd,z6,z1,z7,z8,Question.forced,run_firstCells_none,newRow,grownCap]
def E5 (hT:TOk P T) (hw:Qn ops S o=some true) {s x:Operand} {t tn e:TypeId} (ho:o.op= .call ⟨.builtin .append,#[s,x],#[t,tn]⟩) {it itn ei:TI} (ht:look T t=some it) (hit:it.desc= .slice e)
  (zh:look T tn=some itn) {kn:IntKind} (z8:itn.desc= .int kn) (he:look T e=some ei) (hz:ei.zero.cells.size=ei.size) (zp:0<ei.size) {n:Nat} (hs:rho S.sl s=some .nils) (hx:rho S.sl x=some (.int .i64 n))
  (h0:0<n) (hbound:n * ei.bytes<=140737488355328) (hlen:n<=9223372036854775807)
  (z:AV) (zb:z.cells=ei.zeros) (hd:Wx nt o=true)
  (hR:R (({ S with hp:=S.hp++[.arr e ei.size (yF n z)] }:AS).putD o.dst (.sl S.hp.length ei.size 0 n))):Q7 P nt k true ops o S R:=λC a w K Q hst hK=>by
 unfold OpW;rw[if_pos (hst.wanted hw)];obtain⟨I,m,zi,za,zj,hE⟩:=hst;obtain⟨ti,zk,tz,ts,tb⟩:=hT.info he;have zc:=hT.und ht;rw[hit]at zc;have z1:=hT.und zh;rw[z8]at z1;have zl:=(Ql za hx).int_inv;have zm:=(Ql za hs).nils_inv;have z6:=Sp (P:=P) (w:=w) t tn o.type e ti ei.zero .i64 kn zc z1 zk tz n h0 (by omega) (by omega) (by rw[tb];omega)
  (growslice_fits (by omega) (by rw[tb];exact hbound))
 have c1:=grownCap_ge w n 0 e;have c2:grownCap w n 0 e<=maxLen:=grownCap_le_maxLen w _ 0 e (by unfold maxLen;omega);have zd:(Builtin.zeroCells ei.zero.cells n).size=n * ei.size:=by rw[size_zeroCells,hz]
 generalize ze:Builtin.zeroCells ei.zero.cells n++Builtin.zeroCells ei.zero.cells (grownCap w n 0 e - n)=cs at z6;have z7:cs.size=grownCap w n 0 e * ei.size:=by
  rw[<-ze];simp only[wX,size_zeroCells,hz,<-yS]
  congr 1;omega
 have zn:z.cells.length=ei.size:=by rw[zb,TI.zeros,yE,wK];exact hz
 have zo:Below w.heap.size w (w.drew.alloc (.cells cs e)):=(Below.refl _ _).drew.alloc (zS _) _;obtain⟨g1,g2⟩:=zi.push zo (some w.heap.size) (λb e=>by injection e with e;subst e;simp) (.arr e ei.size (yF n z)) (λm' hf hm=> .inr ⟨w.heap.size,grownCap w n 0 e,cs,rfl,heap_alloc_new w.drew _,by simp;omega,c2,z7,
  λy hy=>by rw[vQ hy];exact zn,λp y hp j v hv=>by
   rw[vF]at hp;split at hp
   ·rename_i zq;obtain rfl:=Option.some.inj hp;have hj:j<ei.size:=by have:=(zB.1 hv).1;omega
    have zf:p * ei.size+j<n * ei.size:=by have:(p+1) * ei.size<=n * ei.size:=yI _ (by omega);rw[yS]at this;omega
    have zg:j<ei.zero.cells.size:=by omega
    refine⟨ei.zero.cells[j],?_,?_⟩
    ·rw[<-ze,xB (by rw[zd];exact zf),xG (by rw[zd];exact zf)];simp only[Builtin.zeroCells,Array.getElem_map,Array.getElem_range,Option.some.injEq];rw[hz,Nat.add_comm,Nat.add_mul_mod_self_right,tY hj];exact getElem!_pos ei.zero.cells j zg
    have:v=zeroCell ei.zero.cells[j]:=by
     rw[zb,TI.zeros,zU]at hv;have h5:ei.zero.cells.toList[j]?=some ei.zero.cells[j]:=by simp[zg]
     rw[h5]at hv;exact(Option.some.inj hv).symm
    rw[this];exact U3 _
   cases hp⟩)
 unfold wpA;have:(execOp a.eval o).run P w= .ok (.value (.slice (some ⟨w.heap.size,0,none⟩) n (grownCap w n 0 e))) (w.drew.alloc (.cells cs e)):=by simp[execOp,ho,resolve,invoke,builtin,zm,zl,z6]
 rw[this];refine hK _ _ _ hR (St.value za zj hE g1 g2 (by simp) (Qi hd) ?_) (λe=>by cases e);have:=VR.sl (w:=w.drew.alloc (.cells cs e)) (I:=I) (m:=upd m S.hp.length (some w.heap.size)) (n:=S.hp.length+1) S.hp.length ei.size 0 n (grownCap w n 0 e) w.heap.size e (by omega) (Q6 _ _ _)
  (by have:=heap_alloc_new w.drew (.cells cs e);simp only[World.size_drew]at this;simp only[World.shape?,this,z7,xZ]) c1 (by omega)
 simpa using this
def W6 (hT:TOk P T) {wr:Bool} (hw:Qn ops S o=some true) {x:Operand} {t e:TypeId} (ho:o.op= .call ⟨.builtin .cap,#[x],#[t]⟩) {it:TI} (ht:look T t=some it) (hit:it.desc= .slice e)
  (hx:rho S.sl x=some .nils) (hd:Wx nt o=true) (hR:R (S.putD o.dst (.int .i64 (0:Nat)))):Q7 P nt k wr ops o S R:=λC a w K Q hst hK=>by
 unfold OpW;rw[if_pos (hst.wanted hw)];obtain⟨I,m,z7,z1,hk,hE⟩:=hst;have z6:=hT.und ht;rw[hit]at z6;have z8:=(Ql z1 hx).nils_inv;unfold wpA;have:(execOp a.eval o).run P w= .ok (.value (goInt 0)) w:=by simp[execOp,ho,resolve,invoke,builtin,z8,u2e z6]
 rw[this];exact hK _ _ w hR (St.value z1 hk hE z7 (Fut.refl _ _ _ _) (zS _) (Qi hd) (.pure (.int _ _))) (λ_=>Tu.refl w)
def Pq{c:Code}{sl:List (Nat×AV)}{H:List AObj}(i k':Nat){e:TypeId}{cw:Nat}{xs:List AV}(hi:H[i]?=some (.arr e cw xs))(h:AWP P nt k c Q ⟨sl,H.set i (.arr e cw (xs.take k'))⟩):AWP P nt k c Q ⟨sl,H⟩:=λC a w hs=>by
 obtain⟨I,m,hw,z1,hk,hf⟩:=hs;have hlen:(H.set i (.arr e cw (xs.take k'))).length=H.length:=by simp
 rcases hw.obj i _ hi with⟨e1,e2⟩|⟨b,cap,vs,hb,hh,q1,q2,q3,q4,hr⟩
 ·subst e2;have:H.set i (.arr e cw (([]:List AV).take k'))=H:=by
   rw[List.take_nil];exact xL λj=>by
    by_cases hj:j=i
    ·subst hj;rw[hi,zK (zB.1 hi).1]
    rw[zE (λe=>hj e.symm)]
  rw[this]at h;exact h C a w ⟨I,m,hw,z1,hk,hf⟩
 obtain⟨g1,g2⟩:=hw.set (w':=w) (o':= .arr e cw (xs.take k')) hi rfl hb (World.grownBy.refl _ _) (λ_ h=>h) (λm' z7=> .inr ⟨b,cap,vs,rfl,hh,by simp;omega,q2,q3,λx hx=>q4 x (xY hx),λj x hx=>by
  rw[xP]at hx;split at hx
  ·exact hr j x hx
  cases hx⟩)
 refine h C a w ⟨I,m,g1,⟨z1.1,z1.2.1,λt x hx=>?_⟩,by rw[hlen];exact hk,hf⟩;obtain⟨v,hv,z6⟩:=z1.2.2 t x hx;exact⟨v,hv,by simpa using z6⟩
end
end
section
open Go.Sort
section
variable {W0:World} {I0:Nat->Prop} {w:World} {I:Nat->Prop} {m:Nat->Option Nat} {H:List AObj} {p b:Nat} {e:TypeId} {k:Nat} {xs:List AV} {F:Array Value}
def u2z {P:Program} [Env P] {f:FuncId} (hc:T7 P f) {len:Nat} (zb:xs.length=len) (ho:H[p]?=some (.arr e k xs)) (hF:RowOf k xs F)
  (Rx:List AV->Nat->Prop) (zc:∀ys n,Rx ys n->n<=len)
  (h:∀(b cap:Nat) (w:World),Holds id w b 0 F->b<w.heap.size->len<=cap->cap<=maxLen->Calls P f (#[.slice (some ⟨b,0,none⟩) len cap]) w λen w'=>∃(z6:List AV) (F':Array Value) (n z1:Nat),en= .returned (.slice (some ⟨b,0,none⟩) z1 cap)/\Rx z6 z1/\z6.length=xs.length/\RowOf k z6 F'/\w'=putRow id (Sort.ahead w n) b 0 F')
  (h0:xs=[]->Rx [] 0/\∀(w:World),Calls P f (#[.slice none 0 0]) w λen w'=>en= .returned (.slice none 0 0)/\w'=w):
  FC P f [.sl p k 0 len] H (λr H'=>∃z6 z1,r= .sl p k 0 z1/\Rx z6 z1/\H'=H.set p (.arr e k z6)):=by
 refine⟨hc,λW0 I0 w I m vals hE z7 zd hv=>?_⟩;rcases vals with⟨vals⟩
 match vals,zd with
 |[v],_=>
  have ze:=hv 0 v _ rfl rfl;rcases ze.sl_inv with⟨b,cap,t,hb,hn,zf,hle,hmax,z8⟩|⟨hb,hn,_,zg,z8⟩|⟨_,_,hlo,_,_⟩
  ·subst z8;obtain⟨g1,g2⟩:=x1n z7 ho hb hF;have:=h b cap w g1 g2 hle (by omega);simp only[uU];refine Calls.mono this ?_;rintro en w' ⟨z6,F',n,z1,rfl,hx,hl,zh,rfl⟩;obtain⟨k1,k2⟩:=y1r z7 ho hb hF hl zh n #[];rw[grow_empty]at k1 k2;refine⟨_,_,_,I,m,⟨z6,z1,rfl,hx,rfl⟩,rfl,k1,by simp,k2,?_⟩;have:=VR.sl (w:=putRow id (Sort.ahead w n) b 0 F') (I:=I) (m:=m) (n:=(H.set p (.arr e k z6)).length) p k 0 z1 cap b t (by simpa using hn) hb (k2.shape _ _ zf) (yP (zc _ _ hx) hle) (by omega);simpa using this
  ·subst z8;have za:xs=[]:=by cases xs with|nil=>rfl|cons=>simp at zb;omega
   obtain⟨r0,r1⟩:=h0 za;subst zg;refine Calls.mono (r1 w) ?_;rintro en w' ⟨rfl,rfl⟩;refine⟨_,_,H,I,m,⟨[],0,rfl,r0,?_⟩,rfl,z7,zS _,.refl _ _ _ _,.slnone p k hn hb⟩;rw[<-za];exact(xL λi=>by
    by_cases hi:i=p
    ·subst hi;rw[ho,zK (zB.1 ho).1]
    rw[zE (λh=>hi h.symm)])
  omega
def d2u(zs:List Int):RowOf 1 (zs.map (AV.int .i64)) (zs.map (Value.int .i64)).toArray where
 size:=by simp
 width x hx:=by obtain⟨y,_,rfl⟩:=zO.1 hx;rfl
 cell i x hx j y hy:=by
  rw[zU]at hx;obtain⟨z,hz,rfl⟩:=zQ.1 hx;obtain⟨hi,rfl⟩:=zB.1 hz;have hj:j=0:=by have:=(zB.1 hy).1;simp[AV.cells]at this;exact this
  subst hj;simp[AV.cells]at hy;subst hy;rw[Nat.mul_one,Nat.add_zero,getElem!_pos _ i (by simpa using hi)];simp[AV.val]
def Mq{w:World}{b:Nat}{zs:List Int}(h:Holds id w b 0 (zs.map (Value.int .i64)).toArray):Holds (Value.int .i64) w b 0 zs.toArray:=λj hj=>by
 have z1:j<zs.length:=by simpa using hj
 have:=h j (by simpa using z1);rw[getElem!_pos _ j (by simpa using z1)]at this;rw[getElem!_pos _ j (by simpa using z1)];simpa using this
def Z4(w:World)(b:Nat)(zs:List Int):putRow (Value.int .i64) w b 0 zs.toArray=putRow id w b 0 (zs.map (Value.int .i64)).toArray:=by
 unfold putRow;refine mapBlock_congr _ _ _ _ λc e fr _=>?_;unfold putCells;refine sA (by simp) λi h1 h2=>?_;simp only[Array.getElem_mapIdx,xS,yE,id];split
 ·rename_i hh;have hi:i - 0<zs.length:=by omega
  rw[getElem!_pos _ (i - 0) (by simpa using hi),getElem!_pos _ (i - 0) (by simpa using hi)];simp
 rfl
end
end
section
open Go.RowKit
section
variable {P:Program} [Env P] {T:TT} {nt k:Nat} {S:AS} {ops:Array Oper} {o:Oper} {R:AS->Prop} {Q:Exit->AS->Prop}
end
end
section
open Go.RowKit Go.Maps
def AV.val_inj{x y:AV}{u:Value}(hx:x.val=some u)(hy:y.val=some u):x=y:=by
 cases x<;>simp[AV.val]at hx<;>subst hx<;>cases y<;>simp[AV.val]at hy
 ·rw[hy]
 ·rw[hy.1,hy.2]
 rw[hy]
def MpSz.push{es:Array MapEntry}{ck:Nat}{kvs:List (AV×AV)}(h:MpSz es ck kvs)(u v:Value)(p:AV×AV):MpSz (es.push ⟨u,v,ck⟩) (ck+1) (kvs++[p]):=by
 refine⟨by simp[h.size],λx hx=>?_,?_⟩
 ·simp only[tE,zV,zP]at hx;rcases hx with hx|rfl
  ·have:=h.born x hx;omega
  simp
 simp only[tE,List.map_append,xJ,List.map_nil];refine List.nodup_append.2 ⟨h.nodup,by simp,λa ha b hb=>?_⟩;obtain⟨x,hx,rfl⟩:=zO.1 ha;have:=h.born x hx;simp at hb;omega
def MpSz.modify{es:Array MapEntry}{ck:Nat}{kvs:List (AV×AV)}(h:MpSz es ck kvs)(j:Nat)(u v:Value)(p:AV×AV):MpSz (es.modify j λe=>{ e with key:=u,val:=v }) ck (kvs.set j p):=by
 have hb:((es.modify j λe=>{ e with key:=u,val:=v }).toList.map (·.born))=es.toList.map (·.born):=by
  apply xL;intro i;simp only[zU,wp,vz];split
  ·subst_vars
   cases es[i]? <;>rfl
  rfl
 refine⟨by simp[h.size],λx hx=>?_,by rw[hb];exact h.nodup⟩;have h1:x.born∈es.toList.map (·.born):=by rw[<-hb];exact uy hx
 obtain⟨y,hy,e⟩:=zO.1 h1;have:=h.born y hy;omega
def AV.kv:AV->Option Value
 | .agg cs=>(Qy (cs.map AV.val)).map λl=> .agg l.toArray
 | .bool b=>some (.bool b)
 | .int k n=>some (.int k n)
 | .str s=>some (.string ⟨s.toArray⟩)
 |_=>none
def Uc{α β:Type}{f:α->Option β}:∀ {l:List α} {r:List β},Qy (l.map f)=some r->r.length=l.length/\∀(i:Nat) (x:α),l[i]?=some x->∃y,r[i]?=some y/\f x=some y
 |[],r,h=>by simp[Qy]at h;subst h;exact⟨rfl,λi x hx=>by simp at hx⟩
 |x::l,r,h=>by
  rw[xJ]at h;cases hf:f x with
  |none=>simp[Qy,hf]at h
  |some y=>
   cases hr:Qy (l.map f)with
   |none=>simp[Qy,hf,hr]at h
   |some r'=>
    simp[Qy,hf,hr]at h;subst h;obtain⟨h1,h2⟩:=Uc hr;refine⟨by simp[h1],λi z hz=>?_⟩;cases i with
    |zero=>simp at hz;subst hz;exact⟨y,rfl,hf⟩
    |succ i=>exact h2 i z (by simpa using hz)
def PVR.kv{w:World}{I:Nat->Prop}{v u:Value}{x:AV}(h:PVR w I v x)(hx:x.kv=some u):v=u:=by
 cases x with
 |agg cs=>
  simp only[AV.kv]at hx;cases hr:Qy (cs.map AV.val)with
  |none=>rw[hr]at hx;cases hx
  |some l=>
   rw[hr]at hx;simp only[wC,Option.some.injEq]at hx;subst hx;obtain⟨h1,h2⟩:=Uc hr;cases h with
   |agg vs _ hl hall=>
    congr 1
    refine sA (by simp[h1,hl]) λi g1 g2=>?_;have hc:i<cs.length:=by omega
    obtain⟨y,hy,hv⟩:=h2 i cs[i] (by simp[hc]);have:=(hall i vs[i] cs[i] (by simp[g1]) (by simp[hc])).val hv;rw[this];have e:l[i]?=some y:=hy;obtain⟨q1,q2⟩:=zB.1 e;simpa using q2.symm
 |bool b=>simp only[AV.kv,Option.some.injEq]at hx;subst hx;exact h.val rfl
 |int k n=>simp only[AV.kv,Option.some.injEq]at hx;subst hx;exact h.val rfl
 |str s=>simp only[AV.kv,Option.some.injEq]at hx;subst hx;exact h.val rfl
 |_=>simp[AV.kv]at hx
def AV.kv_inj{x y:AV}{u:Value}(hx:x.kv=some u)(hy:y.kv=some u):x=y:=by
 have z1:∀ {z:AV},(∀cs,z≠ .agg cs)->z.kv=z.val:=λ{z} hz=>by cases z<;>first|rfl|exact absurd rfl (hz _)
 have z6:∀ {z:AV} {cs:List AV},z.val=some u->(AV.agg cs).kv=some u->False:=λ{z cs} h1 h2=>by simp only[AV.kv]at h2;obtain⟨l,_,rfl⟩:=zQ.1 h2;cases z<;>simp[AV.val]at h1
 by_cases h1:∃cs,x= .agg cs
 ·obtain⟨cs,rfl⟩:=h1;by_cases h2:∃ds,y= .agg ds
  ·obtain⟨ds,rfl⟩:=h2;simp only[AV.kv]at hx hy;obtain⟨l,e1,e2⟩:=zQ.1 hx;obtain⟨r,e3,e4⟩:=zQ.1 hy;have e5:l=r:=by rw[<-e4]at e2;simpa using e2
   subst e5;obtain⟨l1,f1⟩:=Uc e1;obtain⟨l2,f2⟩:=Uc e3
   congr 1
   refine List.ext_getElem (by omega) λi g1 g2=>?_;obtain⟨y1,a1,b1⟩:=f1 i cs[i] (by simp[g1]);obtain⟨y2,a2,b2⟩:=f2 i ds[i] (by simp[g2]);rw[a1]at a2;cases a2;exact AV.val_inj b1 b2
  rw[z1 (λcs e=>h2 ⟨cs,e⟩)]at hy;exact(z6 hy hx).elim
 rw[z1 (λcs e=>h1 ⟨cs,e⟩)]at hx;by_cases h2:∃ds,y= .agg ds
 ·obtain⟨ds,rfl⟩:=h2;exact(z6 hx hy).elim
 rw[z1 (λcs e=>h2 ⟨cs,e⟩)]at hy;exact AV.val_inj hx hy
def AV.kv_pure{x:AV}{u:Value}(h:x.kv=some u):x.pure=true:=by
 cases x with
 |agg cs=>simp only[AV.kv]at h;obtain⟨l,e1,_⟩:=zQ.1 h;obtain⟨_,f1⟩:=Uc e1;unfold AV.pure;simp only[List.all_subtype,List.unattach_attach,zX];intro z hz;obtain⟨i,hi⟩:=yO.1 hz;obtain⟨y,_,hy⟩:=f1 i z hi;cases z<;>simp[AV.val]at hy<;>simp[AV.pure]
 |_=>first|(simp[AV.pure];done)|(simp[AV.kv]at h)
def isKey(P:Program)(k:TypeId)(x:AV):Prop:=∃u l,x.kv=some u/\keyOf P k u=some l
section
variable {P:Program} [Env P] {T:TT} {nt k:Nat} {S:AS} {ops:Array Oper} {o:Oper} {R:AS->Prop} {Q:Exit->AS->Prop}
def Ea {wr:Bool} (hw:Qn ops S o=some true) (hd:Wx nt o=true) {t:TypeId} (ho:o.op= .makeMap t none)
  (hR:R (({ S with hp:=S.hp++[.mp []] }:AS).putD o.dst (.mref S.hp.length))):Q7 P nt k wr ops o S R:=λC a w K Q hst hK=>by
 unfold OpW;rw[if_pos (hst.wanted hw)];obtain⟨I,m,z7,z8,za,hE⟩:=hst;have z1:(execOp a.eval o).run P w= .ok (.value (.map (some w.heap.size))) (w.alloc (.map #[] 0)):=by have h0:=run_makeMap (P:=P) t w;simp[execOp,ho,h0]
 have z6:Below w.heap.size w (w.alloc (.map #[] 0)):=(Below.refl _ _).alloc (zS _) _;have hh:(w.alloc (.map #[] 0)).heap[w.heap.size]?=some (.map #[] 0):=heap_alloc_new w _;obtain⟨g1,g2⟩:=z7.push z6 (some w.heap.size) (λb e=>by injection e with e;subst e;exact⟨zS _,(yT.1 hh).1⟩) (.mp []) (λm' hf hm=>⟨w.heap.size,#[],0,rfl,hh,⟨rfl,by simp,by simp⟩,λi e p he _=>by simp at he⟩);unfold wpA;rw[z1];refine hK _ _ _ hR (St.value z8 za hE g1 g2 (by simp) (Qi hd) (.mref _ _ (by simp) (Q6 _ _ _))) (λ_=>Tu.of_below z6)
def Od {w:World} {I:Nat->Prop} {es:Array MapEntry} {kvs:List (AV×AV)} {kt:TypeId} (K:Keyed P kt) (hl:es.size=kvs.length)
  (z7:∀(i:Nat) (e:MapEntry) (p:AV×AV),es[i]?=some e->kvs[i]?=some p->PVR w I e.key p.1) {kx:AV} {u:Value} {lk:Lit} (hu:kx.kv=some u) (hk:keyOf P kt u=some lk) (zb:∀p∈kvs,isKey P kt p.1):
  ((Instr.findKey kt u es.toList).run P w= .ok none w/\∀p∈kvs,p.1≠kx)\/
  ∃j e p,(Instr.findKey kt u es.toList).run P w= .ok (some (j,e.val)) w/\es[j]?=some e/\kvs[j]?=some p/\p.1=kx/\e.key=u:=by
 have z1:∀(i:Nat) (e:MapEntry),es[i]?=some e->∃p,kvs[i]?=some p:=λi e he=>by have hi:i<es.size:=(yT.1 he).1;exact⟨kvs[i]'(by omega),by simp⟩
 rcases K.find w hk es.toList (λe he=>by
  obtain⟨i,hi,rfl⟩:=yX he;have z8:i<es.size:=by simpa using hi
  have z6:es[i]?=some es[i]:=by simp[z8]
  obtain⟨p,hp⟩:=z1 i _ z6;obtain⟨v,l,hv,hl'⟩:=zb p (zJ hp);have:=(z7 i _ p z6 hp).kv hv;refine⟨l,?_⟩;simp only[tp];rw[this];exact hl')with⟨h1,h2⟩|⟨j,e,h1,h2,h3⟩
 ·refine .inl ⟨h1,λp hp zc=>?_⟩;obtain⟨i,hi,rfl⟩:=yX hp;have z8:i<es.size:=by omega
  have z6:es[i]?=some es[i]:=by simp[z8]
  have:=(z7 i _ kvs[i] z6 (by simp)).kv (by rw[zc];exact hu);exact h2 es[i] (by rw[<-tp];exact zL _) this
 have za:es[j]?=some e:=by rw[<-wp];exact h2
 obtain⟨p,hp⟩:=z1 j e za;obtain⟨v,l,hv,_⟩:=zb p (zJ hp);have h4:=(z7 j e p za hp).kv hv;refine .inr ⟨j,e,p,h1,za,hp,?_,h3⟩;exact AV.kv_inj hv (by rw[hu,<-h4,h3])
def Gj (hT:TOk P T) {wr:Bool} (hw:Qn ops S o=some true) (hd:Wx nt o=true) {t kt et:TypeId} {x ix:Operand} (ho:o.op= .lookup t x ix false) {it ei:TI} (ht:look T t=some it) (hit:it.desc= .map kt et) (he:look T et=some ei)
  (K:Keyed P kt) {id:Nat} (hx:rho S.sl x=some (.mref id)) {kx:AV} (zd:rho S.sl ix=some kx) {kvs:List (AV×AV)} (ze:S.hp[id]?=some (.mp kvs)) (zf:isKey P kt kx) (zg:∀p∈kvs,isKey P kt p.1) {z:AV} (hz:z.val=some ei.zero)
  (zh:∀(j:Nat) (p:AV×AV),kvs[j]?=some p->p.1=kx->R (S.putD o.dst p.2)) (zi:(∀p∈kvs,p.1≠kx)->R (S.putD o.dst z)):Q7 P nt k wr ops o S R:=λC a w K' Q hst hK=>by
 unfold OpW;rw[if_pos (hst.wanted hw)];obtain⟨I,m,z7,z6,hk,hE⟩:=hst;have z8:=hT.und ht;rw[hit]at z8;obtain⟨b,hb,_,zb⟩:=(Ql z6 hx).mref_inv;obtain⟨u,lk,hu,za⟩:=zf;have zj:kx.pure=true:=AV.kv_pure hu;have z1:=((Ql z6 zd).toPure zj).kv hu;obtain⟨b',es,ck,zc,hh,zk,hr⟩:=z7.obj id _ ze;have hl:=zk.size;obtain rfl:b=b':=by rw[hb]at zc;exact Option.some.inj zc
 have zl:=hT.zero he w;unfold wpA;rcases Od K hl (λi e p a b=>(hr i e p a b).1) hu za zg with⟨h1,h2⟩|⟨j,e,p,h1,h2,h3,h4,h5⟩
 ·have:(execOp a.eval o).run P w= .ok (.value ei.zero) w:=by simp[execOp,ho,zb,z1,Instr.lookup,run_underlying z8,MapKept.run_getObj_map hh,K.check w _ za,h1,zl,Result.andThen]
  rw[this];refine hK _ _ w (zi h2) (St.value z6 hk hE z7 (Fut.refl _ _ _ _) (zS _) (Qi hd) (.pure ?_)) (λ_=>Tu.refl w);cases z<;>simp[AV.val]at hz<;>rw[<-hz]
  ·exact .bool _
  ·exact .int _ _
  exact .str _
 have:(execOp a.eval o).run P w= .ok (.value e.val) w:=by simp[execOp,ho,zb,z1,Instr.lookup,run_underlying z8,MapKept.run_getObj_map hh,K.check w _ za,h1,Result.andThen]
 rw[this];exact hK _ _ w (zh j p h3 h4) (St.value z6 hk hE z7 (Fut.refl _ _ _ _) (zS _) (Qi hd) (.pure (hr j e p h2 h3).2)) (λ_=>Tu.refl w)
def Ey (hT:TOk P T) (hw:Qn ops S o=some true) (hd:Wx nt o=true) {t kt et:TypeId} {x ix y:Operand} (ho:o.op= .mapUpdate t x ix y) {it:TI} (ht:look T t=some it) (hit:it.desc= .map kt et)
  (K:Keyed P kt) {id:Nat} (hx:rho S.sl x=some (.mref id)) {kx:AV} (zm:rho S.sl ix=some kx) {vy:AV} (hy:rho S.sl y=some vy) (zn:vy.pure=true) {kvs:List (AV×AV)} (zf:S.hp[id]?=some (.mp kvs)) (zo:isKey P kt kx) (zp:∀p∈kvs,isKey P kt p.1)
  (zq:∀(j:Nat) (p:AV×AV),kvs[j]?=some p->p.1=kx->R (({ S with hp:=S.hp.set id (.mp (kvs.set j (kx,vy))) }:AS).putD o.dst (.tup [])))
  (zr:(∀p∈kvs,p.1≠kx)->R (({ S with hp:=S.hp.set id (.mp (kvs++[(kx,vy)])) }:AS).putD o.dst (.tup []))):Q7 P nt k true ops o S R:=λC a w K' Q hst hK=>by
 unfold OpW;rw[if_pos (hst.wanted hw)];obtain⟨I,m,zg,zc,hk,hE⟩:=hst;have zh:=hT.und ht;rw[hit]at zh;obtain⟨b,hb,_,zk⟩:=(Ql zc hx).mref_inv;obtain⟨u,lk,hu,ze⟩:=zo;have zt:kx.pure=true:=AV.kv_pure hu;have zd:=(Ql zc zm).toPure zt;have zb:=zd.kv hu;have z7:PVR w I u kx:=by rw[<-zb];exact zd
 have hyp:=(Ql zc hy).toPure zn;obtain⟨b',es,ck,zl,hh,zi,hr⟩:=zg.obj id _ zf;have hl:=zi.size;obtain rfl:b=b':=by rw[hb]at zl;exact Option.some.inj zl
 have z1:w.shape? b=none:=by simp[World.shape?,hh]
 have z8:∀o':Obj,w.grownBy { w with heap:=w.heap.setIfInBounds b o' } (some b):=λo'=>⟨rfl,rfl,rfl,by simp,λi _ hi=>by
  simp only[];rw[wW (λe=>hi (by rw[e]))]⟩
 have za:∀o':Obj,({ w with heap:=w.heap.setIfInBounds b o' }:World).heap[b]?=some o':=λo'=>by have:b<w.heap.size:=(yT.1 hh).1;simp[this]
 unfold wpA;rcases Od K hl (λi e p a b=>(hr i e p a b).1) hu ze zp with⟨h1,h2⟩|⟨j,e,p,h1,h2,h3,h4,h5⟩
 ·have:(execOp a.eval o).run P w= .ok .skip { w with heap:=w.heap.setIfInBounds b (.map (es.push ⟨u,a.eval y,ck⟩) (ck+1)) }:=by simp[execOp,ho,zk,zb,Instr.mapUpdate,run_underlying zh,MapKept.run_getObj_map hh,K.check w _ ze,h1,MapKept.run_setObj_map _ hh,Result.andThen]
  rw[this];obtain⟨g1,g2⟩:=zg.set (o':= .mp (kvs++[(kx,vy)])) zf rfl hb (z8 (.map (es.push ⟨u,a.eval y,ck⟩) (ck+1))) (λs hs=>by rw[z1]at hs;cases hs) (λm' hf=>⟨b,_,_,rfl,za _,zi.push _ _ _,λi e' p' he z6=>by
   rw[vN]at he;split at he
   ·rename_i hi;cases he;rw[zF (by omega)]at z6;have:i - kvs.length=0:=by omega
    rw[this]at z6;cases z6;exact⟨z7.mono hf.ext,hyp.mono hf.ext⟩
   rename_i hi;have zu:i<es.size:=(yT.1 he).1;rw[zH (by omega)]at z6;have:=hr i e' p' he z6;exact⟨this.1.mono hf.ext,this.2.mono hf.ext⟩⟩)
  exact hK _ _ _ (zr h2) (St.value zc hk hE g1 g2 (by simp) (Qi hd) (Ya _ _ _ _)) (λe=>by cases e)
 have:(execOp a.eval o).run P w= .ok .skip { w with heap:=w.heap.setIfInBounds b (.map (es.modify j λe=>{ e with key:=u,val:=a.eval y }) ck) }:=by have zj:=K.stays w ze;simp[execOp,ho,zk,zb,Instr.mapUpdate,run_underlying zh,MapKept.run_getObj_map hh,K.check w _ ze,h1,h2,h5,zj,MapKept.run_setObj_map _ hh,Result.andThen]
 rw[this];obtain⟨g1,g2⟩:=zg.set (o':= .mp (kvs.set j (kx,vy))) zf rfl hb (z8 (.map (es.modify j λe=>{ e with key:=u,val:=a.eval y }) ck)) (λs hs=>by rw[z1]at hs;cases hs) (λm' hf=>⟨b,_,_,rfl,za _,zi.modify _ _ _ _,λi e' p' he z6=>by
  rw[vz]at he;by_cases hij:j=i
  ·subst hij;rw[if_pos rfl,h2]at he;rw[zK (zB.1 h3).1]at z6;cases he;cases z6;exact⟨z7.mono hf.ext,hyp.mono hf.ext⟩
  rw[if_neg hij]at he;rw[zE hij]at z6;have:=hr i e' p' he z6;exact⟨this.1.mono hf.ext,this.2.mono hf.ext⟩⟩)
 exact hK _ _ _ (zq j p h3 h4) (St.value zc hk hE g1 g2 (by simp) (Qi hd) (Ya _ _ _ _)) (λe=>by cases e)
def Um (hT:TOk P T) (hw:Qn ops S o=some true) (hd:Wx nt o=true) {t kt et:TypeId} {x ix y:Operand} (ho:o.op= .insert t x ix y) {it:TI} (ht:look T t=some it) (hit:it.desc= .map kt et)
  (K:Keyed P kt) {id:Nat} (hx:rho S.sl x=some (.mref id)) {kx:AV} (zm:rho S.sl ix=some kx) {vy:AV} (hy:rho S.sl y=some vy) (zn:vy.pure=true) {kvs:List (AV×AV)} (zf:S.hp[id]?=some (.mp kvs)) (zo:isKey P kt kx) (zp:∀p∈kvs,isKey P kt p.1)
  (zq:∀(j:Nat) (p:AV×AV),kvs[j]?=some p->p.1=kx->R (({ S with hp:=S.hp.set id (.mp (kvs.set j (kx,vy))) }:AS).putD o.dst (.tup [])))
  (zr:(∀p∈kvs,p.1≠kx)->R (({ S with hp:=S.hp.set id (.mp (kvs++[(kx,vy)])) }:AS).putD o.dst (.tup []))):Q7 P nt k true ops o S R:=λC a w K' Q hst hK=>by
 unfold OpW;rw[if_pos (hst.wanted hw)];obtain⟨I,m,zg,zc,hk,hE⟩:=hst;have zh:=hT.und ht;rw[hit]at zh;obtain⟨b,hb,_,zk⟩:=(Ql zc hx).mref_inv;obtain⟨u,lk,hu,ze⟩:=zo;have zt:kx.pure=true:=AV.kv_pure hu;have zd:=(Ql zc zm).toPure zt;have zb:=zd.kv hu;have z7:PVR w I u kx:=by rw[<-zb];exact zd
 have hyp:=(Ql zc hy).toPure zn;obtain⟨b',es,ck,zl,hh,zi,hr⟩:=zg.obj id _ zf;have hl:=zi.size;obtain rfl:b=b':=by rw[hb]at zl;exact Option.some.inj zl
 have z1:w.shape? b=none:=by simp[World.shape?,hh]
 have z8:∀o':Obj,w.grownBy { w with heap:=w.heap.setIfInBounds b o' } (some b):=λo'=>⟨rfl,rfl,rfl,by simp,λi _ hi=>by
  simp only[];rw[wW (λe=>hi (by rw[e]))]⟩
 have za:∀o':Obj,({ w with heap:=w.heap.setIfInBounds b o' }:World).heap[b]?=some o':=λo'=>by have:b<w.heap.size:=(yT.1 hh).1;simp[this]
 unfold wpA;rcases Od K hl (λi e p a b=>(hr i e p a b).1) hu ze zp with⟨h1,h2⟩|⟨j,e,p,h1,h2,h3,h4,h5⟩
 ·have:(execOp a.eval o).run P w= .ok .skip { w with heap:=w.heap.setIfInBounds b (.map (es.push ⟨u,a.eval y,ck⟩) (ck+1)) }:=by simp[execOp,ho,zk,zb,Instr.mapUpdate,run_underlying zh,MapKept.run_getObj_map hh,K.check w _ ze,h1,MapKept.run_setObj_map _ hh,Result.andThen]
  rw[this];obtain⟨g1,g2⟩:=zg.set (o':= .mp (kvs++[(kx,vy)])) zf rfl hb (z8 (.map (es.push ⟨u,a.eval y,ck⟩) (ck+1))) (λs hs=>by rw[z1]at hs;cases hs) (λm' hf=>⟨b,_,_,rfl,za _,zi.push _ _ _,λi e' p' he z6=>by
   rw[vN]at he;split at he
   ·rename_i hi;cases he;rw[zF (by omega)]at z6;have:i - kvs.length=0:=by omega
    rw[this]at z6;cases z6;exact⟨z7.mono hf.ext,hyp.mono hf.ext⟩
   rename_i hi;have zu:i<es.size:=(yT.1 he).1;rw[zH (by omega)]at z6;have:=hr i e' p' he z6;exact⟨this.1.mono hf.ext,this.2.mono hf.ext⟩⟩)
  exact hK _ _ _ (zr h2) (St.value zc hk hE g1 g2 (by simp) (Qi hd) (Ya _ _ _ _)) (λe=>by cases e)
 have:(execOp a.eval o).run P w= .ok .skip { w with heap:=w.heap.setIfInBounds b (.map (es.modify j λe=>{ e with key:=u,val:=a.eval y }) ck) }:=by have zj:=K.stays w ze;simp[execOp,ho,zk,zb,Instr.mapUpdate,run_underlying zh,MapKept.run_getObj_map hh,K.check w _ ze,h1,h2,h5,zj,MapKept.run_setObj_map _ hh,Result.andThen]
 rw[this];obtain⟨g1,g2⟩:=zg.set (o':= .mp (kvs.set j (kx,vy))) zf rfl hb (z8 (.map (es.modify j λe=>{ e with key:=u,val:=a.eval y }) ck)) (λs hs=>by rw[z1]at hs;cases hs) (λm' hf=>⟨b,_,_,rfl,za _,zi.modify _ _ _ _,λi e' p' he z6=>by
  rw[vz]at he;by_cases hij:j=i
  ·subst hij;rw[if_pos rfl,h2]at he;rw[zK (zB.1 h3).1]at z6;cases he;cases z6;exact⟨z7.mono hf.ext,hyp.mono hf.ext⟩
  rw[if_neg hij]at he;rw[zE hij]at z6;have:=hr i e' p' he z6;exact⟨this.1.mono hf.ext,this.2.mono hf.ext⟩⟩)
 exact hK _ _ _ (zq j p h3 h4) (St.value zc hk hE g1 g2 (by simp) (Qi hd) (Ya _ _ _ _)) (λe=>by cases e)
end
end
section
open Go.RowKit
inductive PlanM where
 |done
 |val (i:Nat) (p:PlanM)
 |one (i:Nat) (p:PlanM)
 |two (i:Nat) (p:PlanM) (j:Nat) (q:PlanM)
 |three (i:Nat) (p:PlanM) (j:Nat) (q:PlanM) (m:Nat) (r:PlanM)
 |four (i:Nat) (p:PlanM) (j:Nat) (q:PlanM) (m:Nat) (r:PlanM) (n:Nat) (s:PlanM)
def PlanM.size:PlanM->Nat
 | .done=>0
 | .val _ p=>p.size+1
 | .one _ p=>p.size+1
 | .two _ p _ _=>p.size+1
 | .three _ p _ _ _ _=>p.size+1
 | .four _ p _ _ _ _ _ _=>p.size+1
def U5(ops:Array Oper)(cl:List (List Nat))(Wr:List Nat):PlanM->Array Bool->Bool
 | .done,l=>(Region.ready .any ops l).isEmpty
 | .val i p,l=>(match ops[i]? with
   |none=>false
   |some o=>isVal o.op && y08 ops cl Wr l i && (Region.ready .any ops l).contains i) && U5 ops cl Wr p (l.setIfInBounds i true)
 | .one i p,l=>(ops[i]?).isSome && Region.ready .any ops l==[i] && U5 ops cl Wr p (l.setIfInBounds i true)
 | .two i p j q,l=>(ops[i]?).isSome && (ops[j]?).isSome && Region.ready .any ops l==[i,j] && p.size==q.size && U5 ops cl Wr p (l.setIfInBounds i true) && U5 ops cl Wr q (l.setIfInBounds j true)
 | .three i p j q m r,l=>(ops[i]?).isSome && (ops[j]?).isSome && (ops[m]?).isSome && Region.ready .any ops l==[i,j,m] && p.size==q.size && p.size==r.size && U5 ops cl Wr p (l.setIfInBounds i true) && U5 ops cl Wr q (l.setIfInBounds j true) && U5 ops cl Wr r (l.setIfInBounds m true)
 | .four i p j q m r n t,l=>(ops[i]?).isSome && (ops[j]?).isSome && (ops[m]?).isSome && (ops[n]?).isSome && Region.ready .any ops l==[i,j,m,n] && p.size==q.size && p.size==r.size && p.size==t.size && U5 ops cl Wr p (l.setIfInBounds i true) && U5 ops cl Wr q (l.setIfInBounds j true) && U5 ops cl Wr r (l.setIfInBounds m true) && U5 ops cl Wr t (l.setIfInBounds n true)
def I3(P:Program)[Env P](T:TT)(nt k:Nat)(ops:Array Oper)(W:Nat->Bool)(Q:AS->Prop):PlanM->AS->Prop
 | .done,S=>Q S
 | .val i p,S=>stepT P T nt k ops W i (I3 P T nt k ops W Q p) S
 | .one i p,S=>Tr P T nt k ops W i (I3 P T nt k ops W Q p) S
 | .two i p j q,S=>Tr P T nt k ops W i (I3 P T nt k ops W Q p) S/\Tr P T nt k ops W j (I3 P T nt k ops W Q q) S
 | .three i p j q m r,S=>Tr P T nt k ops W i (I3 P T nt k ops W Q p) S/\Tr P T nt k ops W j (I3 P T nt k ops W Q q) S/\Tr P T nt k ops W m (I3 P T nt k ops W Q r) S
 | .four i p j q m r n t,S=>Tr P T nt k ops W i (I3 P T nt k ops W Q p) S/\Tr P T nt k ops W j (I3 P T nt k ops W Q q) S/\Tr P T nt k ops W m (I3 P T nt k ops W Q r) S/\Tr P T nt k ops W n (I3 P T nt k ops W Q t) S
section
variable {P:Program} [Env P] {T:TT} {nt k:Nat} {S:AS} {ops:Array Oper} {o:Oper} {R:AS->Prop} {Wr:List Nat}
def Rc(hT:TOk P T){C:Cx P}(hd:Us nt ops.toList=true)(z8:Region.noSelect ops=true):∀(p:PlanM) (listed:Array Bool) (S:AS) (a:Act) (w:World),Ps ops listed->U5 ops (Im ops.toList []) Wr p listed=true->I3 P T nt k ops Wr.contains R p S->St C nt k S a w->
  X0 P ops Wr (q2t C nt k R) p.size listed a w
 | .done,listed,S,a,w,_,hp,h,hs=>⟨by simpa[U5]using hp,S,h,hs⟩
 | .val i p,listed,S,a,w,z7,hp,h,hs=>by
  unfold U5 at hp;unfold I3 stepT at h;rw[z_]at hp;obtain⟨zg,za⟩:=hp;cases ho:ops[i]? with
  |none=>rw[ho]at h;exact h.elim
  |some o=>
   rw[ho]at h zg;simp only at h zg;have zk:Wx nt o=true:=zX.1 hd o (by simpa using uv ho);simp only[z_]at zg;obtain⟨⟨hv,hf⟩,hr⟩:=zg;have zl:Sx o.op=true:=by cases hop:o.op<;>rw[hop]at hv<;>first|rfl|exact hv|(simp[isVal]at hv)
   rw[if_pos zl]at h;have z1:i∈Region.ready .any ops listed:=by simpa using hr
   split at h
   ·rename_i S' zm;obtain⟨v,hy,z6⟩:=hs.yields hT zk hv zm;exact Gl ho (Region.noSelect_spec z8) (λc a w hq=>hq) (λx y=>Uq o.op=true->Tu x y) (λw _=>Tu.refl w) (λx y z h1 h2 hr=>(h1 hr).trans (h2 hr)) p.size listed a w
     (λj oj hj zn zo zp=>v0p ho hf j oj hj zn zo zp) z7 z1 hy (Rc hT hd z8 p _ S' _ w (z7.set z1) za h.2 z6)
   exact h.elim
 | .one i p,listed,S,a,w,z7,hp,h,hs=>by
  unfold U5 at hp;simp only[z_,beq_iff_eq]at hp;obtain⟨⟨_,z1⟩,za⟩:=hp;have zq:i∈Region.ready .any ops listed:=by rw[z1];simp
  refine⟨λh0=>(by rw[z1]at h0;cases h0),λj hj=>?_⟩;rw[z1]at hj;obtain rfl:j=i:=by simpa using hj
  exact Rt hT hd h hs λS' a' w' hR z6=>Rc hT hd z8 p _ S' a' w' (z7.set zq) za hR z6
 | .two i p j q,listed,S,a,w,z7,hp,h,hs=>by
  unfold U5 at hp;simp only[z_,beq_iff_eq]at hp;obtain⟨⟨⟨⟨_,z1⟩,zc⟩,za⟩,zd⟩:=hp;have ze:i∈Region.ready .any ops listed:=by rw[z1];simp
  have zf:j∈Region.ready .any ops listed:=by rw[z1];simp
  refine⟨λh0=>(by rw[z1]at h0;cases h0),λm hm=>?_⟩;rw[z1]at hm;rcases(by simpa using hm:m=i\/m=j)with rfl|rfl
  ·exact Rt hT hd h.1 hs λS' a' w' hR z6=>Rc hT hd z8 p _ S' a' w' (z7.set ze) za hR z6
  refine Rt hT hd h.2 hs λS' a' w' hR z6=>?_;have:=Rc hT hd z8 q _ S' a' w' (z7.set zf) zd hR z6;rw[<-zc]at this;exact this
 | .three i p j q g r,listed,S,a,w,z7,hp,h,hs=>by
  unfold U5 at hp;simp only[z_,beq_iff_eq]at hp;obtain⟨⟨⟨⟨⟨⟨_,z1⟩,zc⟩,zb⟩,za⟩,zd⟩,zh⟩:=hp;have ze:i∈Region.ready .any ops listed:=by rw[z1];simp
  have zf:j∈Region.ready .any ops listed:=by rw[z1];simp
  have zi:g∈Region.ready .any ops listed:=by rw[z1];simp
  refine⟨λh0=>(by rw[z1]at h0;cases h0),λm hm=>?_⟩;rw[z1]at hm;rcases(by simpa using hm:m=i\/m=j\/m=g)with rfl|rfl|rfl
  ·exact Rt hT hd h.1 hs λS' a' w' hR z6=>Rc hT hd z8 p _ S' a' w' (z7.set ze) za hR z6
  ·refine Rt hT hd h.2.1 hs λS' a' w' hR z6=>?_;have:=Rc hT hd z8 q _ S' a' w' (z7.set zf) zd hR z6;rw[<-zc]at this;exact this
  refine Rt hT hd h.2.2 hs λS' a' w' hR z6=>?_;have:=Rc hT hd z8 r _ S' a' w' (z7.set zi) zh hR z6;rw[<-zb]at this;exact this
 | .four i p j q g r n t,listed,S,a,w,z7,hp,h,hs=>by
  unfold U5 at hp;simp only[z_,beq_iff_eq]at hp;obtain⟨⟨⟨⟨⟨⟨⟨⟨_,z1⟩,zc⟩,zb⟩,zj⟩,za⟩,zd⟩,zh⟩,zr⟩:=hp;have ze:i∈Region.ready .any ops listed:=by rw[z1];simp
  have zf:j∈Region.ready .any ops listed:=by rw[z1];simp
  have zi:g∈Region.ready .any ops listed:=by rw[z1];simp
  have zt:n∈Region.ready .any ops listed:=by rw[z1];simp
  refine⟨λh0=>(by rw[z1]at h0;cases h0),λm hm=>?_⟩;rw[z1]at hm;rcases(by simpa using hm:m=i\/m=j\/m=g\/m=n)with rfl|rfl|rfl|rfl
  ·exact Rt hT hd h.1 hs λS' a' w' hR z6=>Rc hT hd z8 p _ S' a' w' (z7.set ze) za hR z6
  ·refine Rt hT hd h.2.1 hs λS' a' w' hR z6=>?_;have:=Rc hT hd z8 q _ S' a' w' (z7.set zf) zd hR z6;rw[<-zc]at this;exact this
  ·refine Rt hT hd h.2.2.1 hs λS' a' w' hR z6=>?_;have:=Rc hT hd z8 r _ S' a' w' (z7.set zi) zh hR z6;rw[<-zb]at this;exact this
  refine Rt hT hd h.2.2.2 hs λS' a' w' hR z6=>?_;have:=Rc hT hd z8 t _ S' a' w' (z7.set zt) zr hR z6;rw[<-zj]at this;exact this
def Js (hT:TOk P T) (hm:P.follows .mixedOrders=true) {Q:Exit->AS->Prop} {id:Nat} {l:List Oper} (Wr:List Nat) (p:PlanM) (hd:Us nt l=true)
  (hp:(Region.noSelect l.toArray && p.size==l.length && U5 l.toArray (Im l []) Wr p (v_ l.length false))=true)
  (h:I3 P T nt k l.toArray Wr.contains (Q .normal) p S):AWP P nt k (.region id l.toArray true) Q S:=λC a w hs=>by
 simp only[z_,beq_iff_eq]at hp;obtain⟨⟨h1,h2⟩,h3⟩:=hp;refine Vn (wpIn_region_any hm (Fi (Wr:=Wr) _ _ _ _ ?_));have z8:St C nt k S a { w with drawn:=w.drawn+1 }:=by
  obtain⟨I,m,hw,z1,hk,hE⟩:=hs;have hb:Below w.heap.size w { w with drawn:=w.drawn+1 }:=⟨rfl,rfl,rfl,zS _,λ_ _=>rfl⟩
  obtain⟨g1,g2⟩:=hw.step hb (λ_ h=>h) (λb z6=>⟨(hw.iw b z6).1,.inl z6⟩);exact⟨I,m,g1,⟨z1.1,z1.2.1,λt x hx=>by obtain⟨v,hv,hr⟩:=z1.2.2 t x hx;exact⟨v,hv,hr.mono g2 (zS _)⟩⟩,hk,hE.trans hk g2⟩
 have:=Rc hT (C:=C) (nt:=nt) (k:=k) (R:=Q .normal) (by simpa using hd) h1 p (v_ l.length false) S a _ (λj o ho hj=>by
  have z7:=(yT.1 ho).1;simp at z7;simp[z7]at hj) (by simpa using h3) h z8
 rw[h2]at this;simpa using this
def Q7.mono{wr:Bool}{R':AS->Prop}(h:Q7 P nt k wr ops o S R)(hr:∀S,R S->R' S):Q7 P nt k wr ops o S R':=
 λC a w K Q hs hK=>h C a w K Q hs λS' a' w' hR=>hK S' a' w' (hr S' hR)
def k0s{W:Nat->Bool}{i:Nat}{R':AS->Prop}(hr:∀S,R S->R' S)(h:stepT P T nt k ops W i R S):stepT P T nt k ops W i R' S:=by
 unfold stepT at h |-;split at h
 ·exact h
 split at h
 ·rename_i z1;rw[if_pos z1];split at h
  ·exact⟨h.1,hr _ h.2⟩
  exact h
 rename_i z1;rw[if_neg z1];exact h.mono hr
def Ev{W:Nat->Bool}{i:Nat}{R':AS->Prop}(hr:∀S,R S->R' S)(h:Tr P T nt k ops W i R S):Tr P T nt k ops W i R' S:=by
 unfold Tr at h |-;split at h
 ·exact h
 split at h
 ·rename_i z1;rw[if_pos z1];split at h
  ·exact⟨h.1,hr _ h.2⟩
  exact h.mono hr
 rename_i z1;rw[if_neg z1];exact h.mono hr
def E3{W:Nat->Bool}{Q Q':AS->Prop}(hq:∀S,Q S->Q' S):∀(p:PlanM) (S:AS),I3 P T nt k ops W Q p S->I3 P T nt k ops W Q' p S
 | .done,S,h=>hq S h
 | .val i p,S,h=>k0s (λS=>E3 hq p S) h
 | .one i p,S,h=>Ev (λS=>E3 hq p S) h
 | .two i p j q,S,h=>⟨Ev (λS=>E3 hq p S) h.1,Ev (λS=>E3 hq q S) h.2⟩
 | .three i p j q m r,S,h=>⟨Ev (λS=>E3 hq p S) h.1,Ev (λS=>E3 hq q S) h.2.1,Ev (λS=>E3 hq r S) h.2.2⟩
 | .four i p j q m r n t,S,h=>⟨Ev (λS=>E3 hq p S) h.1,Ev (λS=>E3 hq q S) h.2.1,Ev (λS=>E3 hq r S) h.2.2.1,Ev (λS=>E3 hq t S) h.2.2.2⟩
end
attribute [simp] I3 AV.nrm AV.nrm1
end
section
open Go.RowKit
section
variable {P:Program} [Env P] {T:TT} {nt k:Nat} {S:AS} {ops:Array Oper} {o:Oper} {R:AS->Prop}
def c1c(z:Array Value)(n p j:Nat)(hp:p<n)(hj:j<z.size):(madeCells z (n * z.size))[p * z.size+j]? =z[j]? :=by
 have z1:p * z.size+j<n * z.size:=by have:(p+1) * z.size<=n * z.size:=yI _ hp;rw[yS]at this;omega
 unfold madeCells;rw[Array.getElem?_map];simp only[Array.getElem?_range,z1];simp only[if_true,wC];rw[Nat.mul_comm p,Nat.mul_add_mod,tY hj];simp[hj]
def Ez (hT:TOk P T) {wr:Bool} (hw:Qn ops S o=some true) (hd:Wx nt o=true) {t e:TypeId} {l c:Operand} (ho:o.op= .makeSlice t l c) {it ei:TI} (ht:look T t=some it) (hit:it.desc= .slice e) (he:look T e=some ei)
  (hz:ei.zero.cells.size=ei.size) {kl kc:IntKind} {n:Nat} (hl:rho S.sl l=some (.int kl n)) (hc:rho S.sl c=some (.int kc n)) (hb:ei.bytes * n<=281474976710656) (hn:n<=maxLen) (z:AV) (zb:z.cells=ei.zeros)
  (hR:R (({ S with hp:=S.hp++[.arr e ei.size (yF n z)] }:AS).putD o.dst (.sl S.hp.length ei.size 0 n))):Q7 P nt k wr ops o S R:=λC a w K Q hst hK=>by
 unfold OpW;rw[if_pos (hst.wanted hw)];obtain⟨I,m,zg,z6,zh,hE⟩:=hst;have zc:=hT.und ht;rw[hit]at zc;obtain⟨i,hi,i1,i2,i3⟩:=hT.info he;have zi:=(Ql z6 hl).int_inv;have zj:=(Ql z6 hc).int_inv;have zk:(n:Int)<=9223372036854775807:=by unfold maxLen at hn;omega
 have zl:(i.bytes:Int) * (n:Int)<=281474976710656:=by
  have h:((i.bytes * n:Nat):Int)<=281474976710656:=by rw[i3];omega
  rwa [si]at h
 have z1:=run_make (P:=P) w t e i ei.zero zc hi i1 kl kc n n (by omega) (Int.le_refl _) zl zk;simp only[Int.toNat_natCast]at z1;rw[i2,<-hz]at z1;obtain⟨cs,z7⟩:∃cs,madeCells ei.zero.cells (n * ei.zero.cells.size)=cs:=⟨_,rfl⟩
 have zd:cs.size=n * ei.size:=by rw[<-z7,<-hz];simp[madeCells]
 have z8:∀p j,p<n->j<ei.size->cs[p * ei.size+j]? =ei.zero.cells[j]? :=λp j hp hj=>by rw[<-z7,<-hz];exact c1c _ _ _ _ hp (by omega)
 rw[z7]at z1;have za:(execOp a.eval o).run P w= .ok (.value (.slice (some ⟨w.heap.size,0,none⟩) n n)) (w.alloc (.cells cs e)):=by simp[execOp,ho,zi,zj,z1]
 have ze:Below w.heap.size w (w.alloc (.cells cs e)):=(Below.refl _ _).alloc (zS _) _;have zf:z.cells.length=ei.size:=by rw[zb,TI.zeros,yE,wK,hz]
 obtain⟨g1,g2⟩:=zg.push ze (some w.heap.size) (λb e=>by injection e with e;subst e;simp) (.arr e ei.size (yF n z)) (λm' hf hm=> .inr ⟨w.heap.size,n,cs,rfl,heap_alloc_new w _,by simp,hn,zd,
  λy hy=>by rw[vQ hy];exact zf,λp y hp j v hv=>by
   rw[vF]at hp;split at hp
   ·rename_i zm;obtain rfl:=Option.some.inj hp;have hj:j<ei.size:=by rw[<-zf];exact(zB.1 hv).1
    rw[zb,TI.zeros,zU]at hv;obtain⟨u,hu,rfl⟩:=zQ.1 hv;rw[wp]at hu;exact⟨u,by rw[z8 p j zm hj];exact hu,U3 u⟩
   cases hp⟩)
 unfold wpA;rw[za];refine hK _ _ _ hR (St.value z6 zh hE g1 g2 (by simp) (Qi hd) ?_) (λ_=>Tu.of_below ze);have:=VR.sl (w:=w.alloc (.cells cs e)) (I:=I) (m:=upd m S.hp.length (some w.heap.size)) (n:=S.hp.length+1) S.hp.length ei.size 0 n n w.heap.size e (by omega) (Q6 _ _ _)
  (by have:=heap_alloc_new w (.cells cs e);simp only[World.shape?,this,xZ];rw[zd]) (zS _) (by omega)
 simpa using this
end
end
section
open Go.RowKit
section
variable {P:Program} [Env P] {nt k:Nat} {Q:Exit->AS->Prop}
def Eu {c:Code} {sl:List (Nat×AV)} {H:List AObj} (i j e sz:Nat) {xs:List AV} (hi:H[i]?=some (.vars xs)) (hj:xs[j]?=some .nils)
  (h:AWP P nt k c Q ⟨sl,(H++[AObj.arr e sz []]).set i (.vars (xs.set j (.sl H.length sz 0 0)))⟩):AWP P nt k c Q ⟨sl,H⟩:=λC a w hs=>by
 obtain⟨I,m,hw,z1,hk,hf⟩:=hs;obtain⟨g1,g2⟩:=hw.push (Below.refl _ _) none (λb e=>by cases e) (.arr e sz []) (λm' _ _=> .inl ⟨rfl,rfl⟩);have z8:i<H.length:=(zB.1 hi).1;have z6:(H++[AObj.arr e sz []])[i]?=some (.vars xs):=by rw[zH z8];exact hi
 obtain⟨b,t,vs,hb,hh,za,hr⟩:=g1.obj i _ z6;obtain⟨g3,g4⟩:=g1.set (w':=w) (o':= .vars (xs.set j (.sl H.length sz 0 0))) z6 rfl hb (World.grownBy.refl _ _) (λ_ h=>h) (λm' z7=>⟨b,t,vs,rfl,hh,by simp[za],λq v x hv hx=>by
  by_cases hq:j=q
  ·subst hq;rw[zK (zB.1 hj).1]at hx;cases hx;have:=(hr j v _ hv hj).nils_inv;subst this;exact .slnone H.length sz (by simp) (by rw[z7.ids _ (by simp)];exact Q6 ..)
  rw[zE hq]at hx;exact(hr q v x hv hx).mono z7 (zS _)⟩)
 have hlen:((H++[AObj.arr e sz []]).set i (.vars (xs.set j (.sl H.length sz 0 0)))).length=H.length+1:=by simp
 refine h C a w ⟨I,upd m H.length none,g3,⟨z1.1,z1.2.1,λs x hx=>?_⟩,by simp at hk |-;omega,hf.trans hk g2⟩;obtain⟨v,hv,zb⟩:=z1.2.2 s x hx;refine⟨v,hv,?_⟩;have:=zb.mono (n':=H.length+1) g2 (by simp);rw[hlen];exact this
def St.freeze1{C:Cx P}{a:Act}{w:World}{sl:List (Nat×AV)}{H:List AObj}(hs:St C nt k ⟨sl,H⟩ a w)(i:Nat){e c:Nat}{xs:List AV}(hi:H[i]?=some (.arr e c xs)):
  St C nt k ⟨sl.map λp=>(p.1,p.2.fz i c xs),H.set i .dead⟩ a w:=by
 obtain⟨I,m,hw,z7,hk,hf⟩:=hs;have z8:Ext w w I (λb=>I b\/m i=some b):=⟨λ_ h=> .inl h,λ_ _=>rfl⟩
 have z6:Fut H.length w I m w (λb=>I b\/m i=some b) m:=⟨z8,λ_ _=>rfl,λ_ _ h=>h⟩
 have hlen:(H.set i .dead).length=H.length:=by simp
 have z1:∀(id:Nat) (o:AObj),(H.set i .dead)[id]?=some o->o.live=true->id≠i/\H[id]?=some o:=λid o ho hl=>by
  by_cases hid:id=i
  ·subst hid;rw[zK (zB.1 hi).1]at ho;cases ho;simp[AObj.live]at hl
  rw[zE (by omega)]at ho;exact⟨hid,ho⟩
 refine⟨λb=>I b\/m i=some b,m,⟨hw.below,λb hb=> .inl (hw.i0 b hb),λb hb=>?_,λid o ho=>?_,λid o b ho hl hm=>?_,λa b oa ob d ha hb la lb ma mb=>?_⟩,⟨z7.1,z7.2.1,λt x hx=>?_⟩,by rw[hlen];exact hk,hf.trans hk z6⟩
 ·rcases hb with hb|hb
  ·exact hw.iw b hb
  have:=hw.own i _ b hi rfl hb;exact⟨this.2.2,.inr this.1⟩
 ·rw[hlen];by_cases hid:id=i
  ·subst hid;rw[zK (zB.1 hi).1]at ho;cases ho;trivial
  rw[zE (by omega)]at ho;exact Ug.mono (hw.obj id o ho) z6 (zS _) (λ_ _ _=>rfl)
 ·obtain⟨zb,za⟩:=z1 id o ho hl;have h1:=hw.own id o b za hl hm;refine⟨h1.1,λhc=>?_,h1.2.2⟩;rcases hc with hc|hc
  ·exact h1.2.1 hc
  exact zb (hw.inj id i o _ b za hi hl rfl hm hc)
 ·obtain⟨_,zc⟩:=z1 a oa ha la;obtain⟨_,zd⟩:=z1 b ob hb lb;exact hw.inj a b oa ob d zc zd la lb ma mb
 rw[hlen];have:=Fm hx;obtain⟨y,hy,rfl⟩:=this;obtain⟨v,hv,hr⟩:=z7.2.2 t y hy;exact⟨v,hv,hr.fz hw hi⟩
def W3{cd:Code}{sl:List (Nat×AV)}{H:List AObj}(i:Nat){e c:Nat}{xs:List AV}(hi:H[i]?=some (.arr e c xs))(h:AWP P nt k cd Q ⟨sl.map λp=>(p.1,p.2.fz i c xs),H.set i .dead⟩):AWP P nt k cd Q ⟨sl,H⟩:=
 λC a w hs=>h C a w (hs.freeze1 i hi)
def Qp{wr:Bool}{ops:Array Oper}{o:Oper}{R:AS->Prop}{sl:List (Nat×AV)}{H:List AObj}(i:Nat){e c:Nat}{xs:List AV}(hi:H[i]?=some (.arr e c xs))(h:Q7 P nt k wr ops o ⟨sl.map λp=>(p.1,p.2.fz i c xs),H.set i .dead⟩ R):Q7 P nt k wr ops o ⟨sl,H⟩ R:=
 λC a w K Q hs=>h C a w K Q (hs.freeze1 i hi)
def St.freezeC{C:Cx P}{a:Act}{w:World}{sl:List (Nat×AV)}{H:List AObj}(hs:St C nt k ⟨sl,H⟩ a w)(i:Nat){e c:Nat}{xs:List AV}(hi:H[i]?=some (.arr e c xs))(t:Nat){cs:List AV}(ht:H[t]?=some (.vars cs)):
  St C nt k ⟨sl.map λp=>(p.1,p.2.fz i c xs),(H.set i .dead).set t (.vars (cs.map λx=>x.fz i c xs))⟩ a w:=by
 obtain⟨I,m,hw,z7,hk,hf⟩:=hs;have za:t≠i:=λh=>by rw[h,hi]at ht;cases ht
 have zc:t<H.length:=(zB.1 ht).1;have z8:Ext w w I (λb=>I b\/m i=some b):=⟨λ_ h=> .inl h,λ_ _=>rfl⟩
 have z6:Fut H.length w I m w (λb=>I b\/m i=some b) m:=⟨z8,λ_ _=>rfl,λ_ _ h=>h⟩
 have hlen:((H.set i .dead).set t (.vars (cs.map λx=>x.fz i c xs))).length=H.length:=by simp
 have z1:∀(id:Nat) (o:AObj),((H.set i .dead).set t (.vars (cs.map λx=>x.fz i c xs)))[id]?=some o->o.live=true->id≠i/\∃o',H[id]?=some o'/\o'.live=true:=λid o ho hl=>by
  by_cases hid:id=i
  ·subst hid;rw[zE za,zK (zB.1 hi).1]at ho;cases ho;simp[AObj.live]at hl
  by_cases hit:id=t
  ·subst hit;exact⟨hid,_,ht,rfl⟩
  rw[zE (by omega),zE (by omega)]at ho;exact⟨hid,_,ho,hl⟩
 refine⟨λb=>I b\/m i=some b,m,⟨hw.below,λb hb=> .inl (hw.i0 b hb),λb hb=>?_,λid o ho=>?_,λid o b ho hl hm=>?_,λa b oa ob d ha hb la lb ma mb=>?_⟩,⟨z7.1,z7.2.1,λt x hx=>?_⟩,by rw[hlen];exact hk,hf.trans hk z6⟩
 ·rcases hb with hb|hb
  ·exact hw.iw b hb
  have:=hw.own i _ b hi rfl hb;exact⟨this.2.2,.inr this.1⟩
 ·rw[hlen];by_cases hid:id=i
  ·subst hid;rw[zE za,zK (zB.1 hi).1]at ho;cases ho;trivial
  by_cases hit:id=t
  ·subst hit;rw[zK (by simpa using zc)]at ho;cases ho;exact(hw.obj id _ ht).fz hw hi
  rw[zE (by omega),zE (by omega)]at ho;exact Ug.mono (hw.obj id o ho) z6 (zS _) (λ_ _ _=>rfl)
 ·obtain⟨zd,o',zb,hl'⟩:=z1 id o ho hl;have h1:=hw.own id o' b zb hl' hm;refine⟨h1.1,λhc=>?_,h1.2.2⟩;rcases hc with hc|hc
  ·exact h1.2.1 hc
  exact zd (hw.inj id i o' _ b zb hi hl' rfl hm hc)
 ·obtain⟨_,ze,zf,zg⟩:=z1 a oa ha la;obtain⟨_,zh,zi,zj⟩:=z1 b ob hb lb;exact hw.inj a b ze zh d zf zi zg zj ma mb
 rw[hlen];have:=Fm hx;obtain⟨y,hy,rfl⟩:=this;obtain⟨v,hv,hr⟩:=z7.2.2 t y hy;exact⟨v,hv,hr.fz hw hi⟩
def Q0{cd:Code}{sl:List (Nat×AV)}{H:List AObj}(i:Nat){e c:Nat}{xs:List AV}(hi:H[i]?=some (.arr e c xs))(t:Nat){cs:List AV}(ht:H[t]?=some (.vars cs))(h:AWP P nt k cd Q ⟨sl.map λp=>(p.1,p.2.fz i c xs),(H.set i .dead).set t (.vars (cs.map λx=>x.fz i c xs))⟩):AWP P nt k cd Q ⟨sl,H⟩:=
 λC a w hs=>h C a w (hs.freezeC i hi t ht)
end
end
section
open Go.RowKit
def w0l(x:AV):x.nrm.cells.length=x.cells.length/\∀(j:Nat) (y':AV),x.nrm.cells[j]?=some y'->∃y,x.cells[j]?=some y/\∀(w:World) (I:Nat->Prop) (v:Value),PVR w I v y->PVR w I v y':=by
 cases x with
 |agg cs=>refine⟨by simp[AV.nrm,AV.cells],λj y' h=>?_⟩;simp only[AV.nrm,AV.cells,zU]at h;obtain⟨y,hy,rfl⟩:=zQ.1 h;exact⟨y,hy,λw I v h=>h.nrm1⟩
 |nils=>
  refine⟨rfl,λj y' h=>?_⟩;cases j with
  |zero=>cases h;exact⟨.nils,rfl,λw I v h=>h.nrm1⟩
  |succ j=>cases h
 |fn f xs ys=>
  refine⟨rfl,λj y' h=>?_⟩;cases j with
  |zero=>cases h;exact⟨.fn f xs ys,rfl,λw I v h=>h.nrm⟩
  |succ j=>cases h
 |_=>exact⟨rfl,λj y' h=>⟨y',h,λw I v h=>h⟩⟩
def AV.nrmL:AV->AV
 | .list xs=> .list (xs.map AV.nrm)
 |x=>x
section
variable {P:Program} [Env P] {nt k:Nat} {Q:Exit->AS->Prop}
end
attribute [simp] AV.nrmL
end
section
open Go.RowKit
section
variable {P:Program} [Env P] {T:TT} {nt k:Nat} {S:AS} {ops:Array Oper} {o:Oper} {R:AS->Prop}
section
variable {W0 w w':World} {I0 I:Nat->Prop} {m:Nat->Option Nat} {H:List AObj}
def V8(H:List AObj):AV->Option (List AV)
 | .list ys=>some ys
 | .sl id c lo len=>match H[id]? with
  |some (.arr _ c' xs)=>if c=c'/\lo+len<=xs.length then some ((xs.drop lo).take len)else none
  |some (.va _ c' xs)=>if c=c'/\lo+len<=xs.length then some ((xs.drop lo).take len)else none
  |_=>none
 | .nils=>some []
 |_=>none
def y0p(hw:WS W0 I0 w I m H){v:Value}{x:AV}{ys:List AV}(hv:VR w I m H.length v x)(h:V8 H x=some ys):
  ∃(ao:Option Addr) (cap:Nat) (u:Nat->Nat->Value),v= .slice ao ys.length cap/\
   (0<ys.length->∃ad,ao=some ad/\∃c,(∀y∈ys,y.cells.length=c)/\∀i j,i<ys.length->j<c->w.cell? (ad.add (i * c+j))=some (u i j))/\
   (∀(i:Nat) (x:AV),ys[i]?=some x->∀(j:Nat) (y:AV),x.cells[j]?=some y->VR w I m H.length (u i j) y):=by
 cases x with
 |list zs=>simp only[V8,Option.some.injEq]at h;subst h;obtain⟨a,cap,c,u,rfl,_,_,hc,ha,hu⟩:=hv.list_inv.list_inv;exact⟨a,cap,u,rfl,λh0=>by obtain⟨ad,e,_,hcell⟩:=ha h0;exact⟨ad,e,c,hc,hcell⟩,λi x hx j y hy=> .pure (hu i x hx j y hy)⟩
 |nils=>simp only[V8,Option.some.injEq]at h;subst h;obtain rfl:=hv.nils_inv;exact⟨none,0,λ_ _=>undef,rfl,λh0=>by simp at h0,λi x hx=>by simp at hx⟩
 |sl id c lo len=>
  simp only[V8]at h;split at h
  ·rename_i e c' xs ho;split at h
   ·rename_i hc;obtain⟨rfl,hl⟩:=hc;simp only[Option.some.injEq]at h;subst h;have hlen:((xs.drop lo).take len).length=len:=by simp;omega
    rcases hv.sl_inv with⟨b,cap,t,hb,hn,hs,hl',hmax,rfl⟩|⟨hb,hn,rfl,rfl,rfl⟩|⟨ad,hn,hlo,rfl,rfl⟩
    ·rcases hw.obj id _ ho with⟨e1,rfl⟩|⟨b',z1,vs,z6,hh,q1,q2,q3,q4,hr⟩
     ·rw[hb]at e1;cases e1
     obtain rfl:b=b':=by rw[hb]at z6;exact Option.some.inj z6
     refine⟨_,cap,λi j=>vs.getD ((lo+i) * c+j) undef,by rw[hlen],λ_=>⟨_,rfl,c,λx hx=>q4 x (uB (xY hx)),λi j hi hj=>?_⟩,λi x hx j z hz=>?_⟩
     ·rw[hlen]at hi;rw[Addr.add_lit,cell_of_row w b _ vs e (0,0) hh];simp only[yS];have z7:(lo+i) * c+j<vs.size:=by rw[q3];have:(lo+i+1) * c<=z1 * c:=yI c (by omega);rw[yS (lo+i)]at this;omega
      rw[yS]at z7;rw[show lo * c+(i * c+j)=lo * c+i * c+j by omega];simp[z7]
     rw[xP]at hx;split at hx
     ·rw[xN]at hx;obtain⟨v,hv,hp⟩:=hr (lo+i) x hx j z hz;simp only[wO,hv,ww];exact .pure hp
     cases hx
    ·exact⟨none,0,λ_ _=>undef,by rw[hlen],λh0=>by simp at h0,λi x hx=>by simp at hx⟩
    exact⟨some ad,0,λ_ _=>undef,by rw[hlen],λh0=>by simp at h0,λi x hx=>by simp at hx⟩
   cases h
  ·rename_i e c' xs ho;split at h
   ·rename_i hc;obtain⟨rfl,hl⟩:=hc;simp only[Option.some.injEq]at h;subst h;have hlen:((xs.drop lo).take len).length=len:=by simp;omega
    rcases hv.sl_inv with⟨b,cap,t,hb,hn,hs,hl',hmax,rfl⟩|⟨hb,hn,rfl,rfl,rfl⟩|⟨ad,hn,hlo,rfl,rfl⟩
    ·rcases hw.obj id _ ho with⟨e1,rfl⟩|⟨b',z1,vs,z6,hh,q1,q2,q3,q4,hr⟩
     ·rw[hb]at e1;cases e1
     obtain rfl:b=b':=by rw[hb]at z6;exact Option.some.inj z6
     refine⟨_,cap,λi j=>vs.getD ((lo+i) * c+j) undef,by rw[hlen],λ_=>⟨_,rfl,c,λx hx=>q4 x (uB (xY hx)),λi j hi hj=>?_⟩,λi x hx j z hz=>?_⟩
     ·rw[hlen]at hi;rw[Addr.add_lit,cell_of_row w b _ vs e (0,0) hh];simp only[yS];have z7:(lo+i) * c+j<vs.size:=by rw[q3];have:(lo+i+1) * c<=z1 * c:=yI c (by omega);rw[yS (lo+i)]at this;omega
      rw[yS]at z7;rw[show lo * c+(i * c+j)=lo * c+i * c+j by omega];simp[z7]
     rw[xP]at hx;split at hx
     ·rw[xN]at hx;obtain⟨v,hv,hp⟩:=hr (lo+i) x hx j z hz;simp only[wO,hv,ww];exact hp
     cases hx
    ·exact⟨none,0,λ_ _=>undef,by rw[hlen],λh0=>by simp at h0,λi x hx=>by simp at hx⟩
    exact⟨some ad,0,λ_ _=>undef,by rw[hlen],λh0=>by simp at h0,λi x hx=>by simp at hx⟩
   cases h
  cases h
 |_=>simp[V8]at h
end
def Ac(S:AS)(e:TypeId)(c:Nat):AV->Option (List AV×List AObj)
 | .nils=>some ([],S.hp)
 | .sl id c' 0 len=>match S.hp[id]? with
  |some (.va e' c'' xs)=>if c'=c/\c''=c/\e'=e/\len=xs.length then some (xs,S.hp.set id .dead)else none
  |_=>none
 |_=>none
def Vd (hT:TOk P T) (hw:Qn ops S o=some true) {s x:Operand} {t e:TypeId} (ho:o.op= .call ⟨.builtin .append,#[s,x],#[t,t]⟩) {it ei:TI} (ht:look T t=some it) (hit:it.desc= .slice e) (he:look T e=some ei)
  (hz:ei.zero.cells.size=ei.size) (y2:0<ei.size) {sv xv:AV} (hs:rho S.sl s=some sv) (hx:rho S.sl x=some xv) {xs ys:List AV} {H1:List AObj} (hb:Ac S e ei.size sv=some (xs,H1)) (hy:V8 S.hp xv=some ys)
  (zw:∀y∈ys,y.cells.length=ei.size/\y.cells.all AV.leaf=true) (hbound:(xs.length+ys.length) * ei.bytes<=140737488355328) (hlen:xs.length+ys.length<=9223372036854775807) (hd:Wx nt o=true)
  (hR:R (({ S with hp:=H1++[.va e ei.size (xs++ys)] }:AS).putD o.dst (.sl S.hp.length ei.size 0 (xs.length+ys.length)))):Q7 P nt k true ops o S R:=λC a w K Q hst hK=>by
 unfold OpW;rw[if_pos (hst.wanted hw)];obtain⟨I,m,zc,zr,hk,hE⟩:=hst;obtain⟨ao,cap,u,zl,hcell,zx⟩:=y0p zc (Ql zr hx) hy;have zy:=Ql zr hs;obtain⟨ti,zm,tz,ts,tb⟩:=hT.info he;have zi:=hT.und ht;rw[hit]at zi;have zj:H1.length=S.hp.length:=by
  unfold Ac at hb;split at hb
  ·simp only[Option.some.injEq,Prod.mk.injEq]at hb;rw[<-hb.2]
  ·split at hb
   ·split at hb
    ·simp only[Option.some.injEq,Prod.mk.injEq]at hb;rw[<-hb.2];simp
    cases hb
   cases hb
  cases hb
 -- what the run comes to decides all
 have fin:∀(v:Value) (w':World) (m':Nat->Option Nat),(Builtin.append_ #[t,t] o.type #[a.eval s,a.eval x]).run P w= .ok v w'->WS C.W0 C.I0 w' I m' (H1++[.va e ei.size (xs++ys)])->Fut S.hp.length w I m w' I m'->
   VR w' I m' (S.hp.length+1) v (.sl S.hp.length ei.size 0 (xs.length+ys.length))->wpA P o a w K Q:=λv w' m' z6 g1 g2 g3=>by
  unfold wpA;have:(execOp a.eval o).run P w= .ok (.value v) w':=by simp[execOp,ho,resolve,invoke,builtin,z6]
  rw[this];exact hK _ _ w' hR (St.value zr hk hE g1 g2 (by simp[zj]) (Qi hd) (by simpa[zj]using g3)) (λe=>by cases e)
 -- nothing is appended
 have zero:ys=[]->∀(b0:Option Addr) (n0 c0:Nat),n0<=c0->a.eval s= .slice b0 n0 c0->(Builtin.append_ #[t,t] o.type #[a.eval s,a.eval x]).run P w= .ok (.slice b0 n0 c0) w:=λz8 b0 n0 c0 hle zn=>by rw[zn,zl,z8];cases ao<;>cases b0<;>simp[Builtin.append_,run_underlying zi,sizeOf,typeInfo,zm,Builtin.lenOf,Builtin.firstCells,hle,loadCells,loadCellsFrom,storeCells]
 -- a new row
 have newrow:∀(z7:Nat) (cs:Array Value),xs.length+ys.length<=z7->z7<=maxLen->cs.size=z7 * ei.size->
   (∀(i:Nat) (z:AV),(xs++ys)[i]?=some z->z.cells.length=ei.size/\∀(j:Nat) (y:AV),z.cells[j]?=some y->∃v,cs[i * ei.size+j]?=some v/\VR w I m S.hp.length v y)->
   (Builtin.append_ #[t,t] o.type #[a.eval s,a.eval x]).run P w= .ok (.slice (some ⟨w.heap.size,0,none⟩) (xs.length+ys.length) z7) (w.drew.alloc (.cells cs e))->WS C.W0 C.I0 w I m H1->wpA P o a w K Q:=λz7 cs h1 h2 h3 h4 z6 zo=>by
  have y3:Below w.heap.size w (w.drew.alloc (.cells cs e)):=(Below.refl _ _).drew.alloc (zS _) _;obtain⟨g1,g2⟩:=zo.push y3 (some w.heap.size) (λb e=>by injection e with e;subst e;simp) (.va e ei.size (xs++ys)) (λm' hf hm=> .inr ⟨w.heap.size,z7,cs,rfl,heap_alloc_new w.drew _,by simpa using h1,h2,h3,
   λz zd=>by obtain⟨i,hi⟩:=yO.1 zd;exact(h4 i z hi).1,λi z hi j y hy=>by obtain⟨v,q1,q2⟩:=(h4 i z hi).2 j y hy;exact⟨v,q1,q2.mono (by rw[<-zj];exact hf) (by omega)⟩⟩)
  rw[zj]at g1 g2;refine fin _ _ _ z6 g1 g2 ?_;have:=VR.sl (w:=w.drew.alloc (.cells cs e)) (I:=I) (m:=upd m S.hp.length (some w.heap.size)) (n:=S.hp.length+1) S.hp.length ei.size 0 (xs.length+ys.length) z7 w.heap.size e (by omega) (Q6 _ _ _)
   (by have:=heap_alloc_new w.drew (.cells cs e);simp only[World.size_drew]at this;simp only[World.shape?,this,h3,xZ]) h1 (by omega)
  simpa using this
 have zg:∀y∈ys,y.cells.length=ei.size:=λy hy=>(zw y hy).1;have news:0<ys.length->∃ad,ao=some ad/\∀(q:Nat) (v:Value),(Qx u ys.length ei.size)[q]?=some v->w.cell? (ad.add q)=some v:=λh0=>by
  obtain⟨ad,e1,c,h1,h2⟩:=hcell h0;have hc:c=ei.size:=by rw[<-h1 _ (zL h0),zg _ (zL h0)]
  subst hc;refine⟨ad,e1,λq v hq=>?_⟩;obtain⟨_,_,q1,q2,q3,rfl⟩:=Uk _ _ _ _ _ hq;have:=h2 _ _ q1 q2;rw[<-q3]at this;exact this
 have one:∀v∈Qx u ys.length ei.size,v.oneCell'=true:=λv hv=>by obtain⟨q,hq⟩:=yO.1 hv;obtain⟨_,_,q1,q2,q3,rfl⟩:=Uk _ _ _ _ _ hq;have y4:ys[q / ei.size]?=some ys[q / ei.size]:=zI q1;have yc:=zg _ (zL q1);have zz:(ys[q / ei.size]).cells[q % ei.size]?=some ((ys[q / ei.size]).cells[q % ei.size]'(by omega)):=zI (by omega);exact(zx _ _ y4 _ _ zz).oneCell (zX.1 (zw _ (zL q1)).2 _ (zJ zz))
 have yrel:∀(i:Nat) (z:AV),ys[i]?=some z->∀(j:Nat) (y:AV),z.cells[j]?=some y->(Qx u ys.length ei.size)[i * ei.size+j]?=some (u i j)/\VR w I m S.hp.length (u i j) y:=λi z zd j y hy=>by have hi:=(zB.1 zd).1;have hj:=(zB.1 hy).1;rw[zg z (zJ zd)]at hj;exact⟨Dj _ _ _ _ _ hi hj,zx i z zd j y hy⟩
 have capw:∀zp,xs.length+ys.length<=grownCap w (xs.length+ys.length) zp e/\grownCap w (xs.length+ys.length) zp e<=maxLen:=λzp=>
  ⟨grownCap_ge _ _ _ _,grownCap_le_maxLen w _ zp e (by unfold maxLen;omega)⟩
 have fromNone:a.eval s= .slice none 0 0->xs=[]->WS C.W0 C.I0 w I m H1->wpA P o a w K Q:=λzn y5 zo=>by
  subst y5;rcases wY ys.length with h0|h0
  ·have z8:=wI h0;have z6:=zero z8 none 0 0 (zS _) zn;obtain⟨g1,g2⟩:=zo.push (Below.refl _ _) none (λb e=>by cases e) (.va e ei.size ([]++ys)) (λm' _ _=> .inl ⟨rfl,by simp[z8]⟩);rw[zj]at g1 g2;refine fin _ _ _ z6 g1 g2 ?_;rw[h0];exact .slnone _ _ (by omega) (Q6 _ _ _)
  obtain⟨ad,rfl,za⟩:=news h0;have z6:=run_append_nil (P:=P) w t o.type e ti ei.zero zi zm tz ad ys.length cap (Qx u ys.length ei.size) (by rw[Q1,ts]) za h0 (by simp at hlen;omega) (by rw[tb];simp at hbound;omega);obtain⟨c1,c2⟩:=capw 0;simp only[List.length_nil,xZ]at c1 c2;refine newrow (grownCap w ys.length 0 e) _ (by simpa using c1) c2 ?_ ?_ (by rw[zn,zl];simpa using z6) zo
  ·have key:∀cs:Array Value,cs.size=ei.size->((Qx u ys.length ei.size).toArray++Builtin.zeroCells cs (grownCap w ys.length 0 e - ys.length)).size=grownCap w ys.length 0 e * ei.size:=λcs y6=>by
    simp only[wX,xS,Q1,size_zeroCells,y6,<-yS]
    congr 1;omega
   exact key _ hz
  intro i z hi;simp only[List.nil_append]at hi;refine⟨zg z (zJ hi),λj y hy=>?_⟩;obtain⟨q1,q2⟩:=yrel i z hi j y hy;exact⟨_,by rw[xB (by simpa using(zB.1 q1).1)];simpa using q1,q2⟩
 unfold Ac at hb;split at hb
 ·simp only[Option.some.injEq,Prod.mk.injEq]at hb;obtain⟨rfl,rfl⟩:=hb;exact fromNone zy.nils_inv rfl zc
 ·rename_i id c' len;split at hb
  ·rename_i e' c'' z1 zq;split at hb
   ·rename_i hc;obtain⟨rfl,rfl,rfl,rfl⟩:=hc;simp only[Option.some.injEq,Prod.mk.injEq]at hb;obtain⟨rfl,rfl⟩:=hb;have zb:=zc.kill id;rcases zy.sl_inv with⟨b,cp,t',hb,hn,zt,hl',hmax,zh⟩|⟨hb,hn,_,yd,zh⟩|⟨ad,hn,hlo,_,_⟩
    ·rcases zc.obj id _ zq with⟨e1,_⟩|⟨b',y7,vs,zk,hh,q1,q2,q3,q4,hr⟩
     ·rw[hb]at e1;cases e1
     obtain rfl:b=b':=by rw[hb]at zk;exact Option.some.inj zk
     have y8:cp=y7:=by
      have:w.shape? b=some (e',vs.size):=by simp[World.shape?,hh]
      rw[this]at zt;simp only[Option.some.injEq,Prod.mk.injEq,xZ,q3]at zt;exact(Nat.eq_of_mul_eq_mul_right y2 zt.2).symm
     subst y8;simp only[uU]at zh;have xrel:∀(i:Nat) (z:AV),z1[i]?=some z->∀j,j<ei.size->i * ei.size+j<z1.length * ei.size:=λi z hi j hj=>by have:(i+1) * ei.size<=z1.length * ei.size:=yI _ (zB.1 hi).1;rw[yS]at this;omega
     have y9:z1.length * ei.size<=vs.size:=by rw[q3];exact yI _ q1
     have y0:∀(w':World),w'.shape? b=some (e',cp * ei.size)->z1.length+ys.length<=cp->VR w' I (upd m S.hp.length (some b)) (S.hp.length+1) (.slice (some ⟨b,0,none⟩) (z1.length+ys.length) cp) (.sl S.hp.length ei.size 0 (z1.length+ys.length)):=λw' ya hle=>by have:=VR.sl (w:=w') (I:=I) (m:=upd m S.hp.length (some b)) (n:=S.hp.length+1) S.hp.length ei.size 0 (z1.length+ys.length) cp b e' (by omega) (Q6 _ _ _) (by simpa using ya) hle (by omega);simpa using this
     rcases wY ys.length with h0|h0
     ·have z8:=wI h0;have z6:=zero z8 _ _ _ hl' zh;obtain⟨g1,g2⟩:=zc.adopt (w':=w) (o':= .va e' ei.size (z1++ys)) zq rfl hb (World.grownBy.refl _ _) (λ_ h=>h) (λm' hf=> .inr ⟨b,cp,vs,rfl,hh,by simp[z8,q1],q2,q3,by simpa[z8]using q4,λi z hi j y hy=>by obtain⟨v,p1,p2⟩:=hr i z (by simpa[z8]using hi) j y hy;exact⟨v,p1,p2.mono hf (ul _)⟩⟩);refine fin _ _ _ z6 g1 g2 ?_;have:=y0 w (by simp[World.shape?,hh,q3]) (by omega);rw[h0]at this |-;exact this
     obtain⟨ad,rfl,za⟩:=news h0;by_cases hroom:z1.length+ys.length<=cp
     ·have ze:z1.length * ti.size+(Qx u ys.length ei.size).length<=vs.size:=by rw[Q1,ts,q3,<-yS];exact yI _ hroom
      have z6:=run_append_room (P:=P) w t o.type e' ti zi zm b z1.length cp vs hh ad ys.length cap (Qx u ys.length ei.size) (by rw[Q1,ts]) za one hroom ze;rw[ts]at z6 ze;have zu:(vs.toList.take (z1.length * ei.size)++Qx u ys.length ei.size++vs.toList.drop (z1.length * ei.size+(Qx u ys.length ei.size).length)).toArray=spl vs (z1.length * ei.size) (Qx u ys.length ei.size).toArray:=by simp[spl]
      rw[zu]at z6;have y1:z1.length * ei.size+(Qx u ys.length ei.size).toArray.size<=vs.size:=by simpa using ze
      have zf:=Ut vs (z1.length * ei.size) (Qx u ys.length ei.size).toArray y1;obtain⟨g1,g2⟩:=zc.adopt (o':= .va e' ei.size (z1++ys)) zq rfl hb (R4 w b (spl vs (z1.length * ei.size) (Qx u ys.length ei.size).toArray)) (Ye hh zf)
       (λm' hf=> .inr ⟨b,cp,_,rfl,setRow_heap w b vs _ e' _ hh,by simpa using hroom,q2,by rw[zf,q3],λz zd=>by
         rcases zV.1 zd with h1|h1
         ·exact q4 z h1
         ·exact zg z h1,λi z hi j y hy=>by
         rw[K9 _ _ _ _ y1];by_cases hix:i<z1.length
         ·rw[zH hix]at hi;have hj:j<ei.size:=by have:=(zB.1 hy).1;rw[q4 z (zJ hi)]at this;exact this
          have:=xrel i z hi j hj;rw[if_neg (by omega)];obtain⟨v,p1,p2⟩:=hr i z hi j y hy;exact⟨v,p1,p2.mono hf (ul _)⟩
         rw[zF (by omega)]at hi;obtain⟨p1,p2⟩:=yrel _ z hi j y hy;have p3:=(zB.1 p1).1;have p4:i * ei.size=z1.length * ei.size+(i - z1.length) * ei.size:=by rw[<-yS];congr 1;omega
         rw[if_pos (by simp only[xS];omega)];exact⟨_,by rw[show i * ei.size+j - z1.length * ei.size=(i - z1.length) * ei.size+j by omega];simpa using p1,p2.mono hf (ul _)⟩⟩)
      refine fin _ _ _ (by rw[zh,zl];exact z6) g1 g2 (y0 _ ?_ hroom);simp[World.shape?,setRow_heap w b vs _ e' _ hh,zf,q3]
     have holds:∀(j:Nat) (v:Value),(vs.toList.take (z1.length * ei.size))[j]?=some v->w.cell? ((⟨b,0,none⟩:Addr).add j)=some v:=λj v hj=>by
      rw[Addr.add_lit,xZ,cell_of_row w b j vs e' (0,0) hh];rw[xP]at hj;split at hj
      ·simpa using hj
      cases hj
     have z6:=run_append_grow (P:=P) w t o.type e' ti ei.zero zi zm tz ⟨b,0,none⟩ z1.length cp (vs.toList.take (z1.length * ei.size)) (by rw[ts];simp;omega) holds ad ys.length cap (Qx u ys.length ei.size) (by rw[Q1,ts]) za (by omega) (by omega)
      (growslice_fits (by omega) (by rw[tb];exact hbound))
     obtain⟨c1,c2⟩:=capw cp;refine newrow _ _ c1 c2 ?_ ?_ (by rw[zh,zl];exact z6) zb
     ·have:(vs.toList.take (z1.length * ei.size)).length=z1.length * ei.size:=by simp;omega
      simp only[wX,xS,Q1,size_zeroCells,hz,this,<-yS]
      congr 1;omega
     intro i z hi;have zv:(vs.toList.take (z1.length * ei.size)).length=z1.length * ei.size:=by simp;omega
     by_cases hix:i<z1.length
     ·rw[zH hix]at hi;refine⟨q4 z (zJ hi),λj y hy=>?_⟩;have hj:j<ei.size:=by have:=(zB.1 hy).1;rw[q4 z (zJ hi)]at this;exact this
      have yb:=xrel i z hi j hj;obtain⟨v,p1,p2⟩:=hr i z hi j y hy;refine⟨v,?_,p2⟩;rw[xB (by simp;omega),xB (by simp;omega),List.getElem?_toArray,xP,if_pos yb];simpa using p1
     rw[zF (by omega)]at hi;refine⟨zg z (zJ hi),λj y hy=>?_⟩;obtain⟨p1,p2⟩:=yrel _ z hi j y hy;have p3:=(zB.1 p1).1;have p4:i * ei.size=z1.length * ei.size+(i - z1.length) * ei.size:=by rw[<-yS];congr 1;omega
     refine⟨_,?_,p2⟩;rw[xB (by simp only[wX,xS,zv];omega),u7 (by simp only[xS,zv];omega)];simp only[xS,zv];rw[show i * ei.size+j - z1.length * ei.size=(i - z1.length) * ei.size+j by omega];simpa using p1
    ·rcases zc.obj id _ zq with⟨_,e1⟩|⟨b',_,_,zk,_⟩
     ·exact fromNone zh e1 zb
     rw[hb]at zk;cases zk
    omega
   cases hb
  cases hb
 cases hb
end
end
section
open Go.RowKit
section
variable {P:Program} [Env P] {T:TT} {nt k:Nat} {S:AS} {ops:Array Oper} {o:Oper} {R:AS->Prop}
def Zj (hT:TOk P T) (hw:Qn ops S o=some true) {s x:Operand} {t e:TypeId} (ho:o.op= .call ⟨.builtin .append,#[s,x],#[t,t]⟩) {it ei:TI} (ht:look T t=some it) (hit:it.desc= .slice e) (he:look T e=some ei)
  (hz:ei.zero.cells.size=ei.size) (z1:0<ei.size) (z6:0<ei.bytes) {sv xv:AV} (hs:rho S.sl s=some sv) (hx:rho S.sl x=some xv) (hd:Wx nt o=true)
  (hR:match Ac S e ei.size sv,V8 S.hp xv with
   |some (xs,H1),some ys=>Wo ei xs ys/\R (({ S with hp:=H1++[.va e ei.size (xs++ys)] }:AS).putD o.dst (.sl S.hp.length ei.size 0 (xs.length+ys.length)))
   |_,_=>False):Q7 P nt k true ops o S R:=by
 cases hb:Ac S e ei.size sv with
 |none=>rw[hb]at hR;exact hR.elim
 |some p=>
  obtain⟨xs,H1⟩:=p;cases hy:V8 S.hp xv with
  |none=>rw[hb,hy]at hR;exact hR.elim
  |some ys=>rw[hb,hy]at hR;obtain⟨⟨h1,h2⟩,h3⟩:=hR;refine Vd hT hw ho ht hit he hz z1 hs hx hb hy h1 h2 ?_ hd h3;have:=Nat.le_mul_of_pos_right (xs.length+ys.length) z6;omega
def WS.swap{W0 w:World}{I0 I:Nat->Prop}{m:Nat->Option Nat}{H:List AObj}(h:WS W0 I0 w I m H){i:Nat}{o o':AObj}(hi:H[i]?=some o)(hl:o.live=true)(hO:Ug w I m H.length (m i) o'):WS W0 I0 w I m (H.set i o'):=by
 have z6:∀(k:Nat) (p:AObj),(H.set i o')[k]?=some p->(k=i/\p=o')\/(k≠i/\H[k]?=some p):=λk p hp=>by
  by_cases hk:k=i
  ·subst hk;rw[zK (zB.1 hi).1]at hp;exact .inl ⟨rfl,(Option.some.inj hp).symm⟩
  rw[zE (by omega)]at hp;exact .inr ⟨hk,hp⟩
 have z1:∀(k:Nat) (p:AObj),(H.set i o')[k]?=some p->p.live=true->∃q,H[k]?=some q/\q.live=true:=λk p hp lp=>by
  rcases z6 k p hp with⟨rfl,rfl⟩|⟨_,h2⟩
  ·exact⟨o,hi,hl⟩
  exact⟨p,h2,lp⟩
 refine⟨h.below,h.i0,h.iw,λk p hp=>?_,λk p c hp lp mc=>?_,λa b oa ob c ha hb la lb ma mb=>?_⟩
 ·rw[List.length_set];rcases z6 k p hp with⟨rfl,rfl⟩|⟨_,h2⟩
  ·exact hO
  exact h.obj k p h2
 ·obtain⟨q,hq,lq⟩:=z1 k p hp lp;exact h.own k q c hq lq mc
 obtain⟨qa,h1,h2⟩:=z1 a oa ha la;obtain⟨qb,h3,h4⟩:=z1 b ob hb lb;exact h.inj a b qa qb c h1 h3 h2 h4 ma mb
variable {Q:Exit->AS->Prop}
def St.swap{C:Cx P}{a:Act}{w:World}{sl:List (Nat×AV)}{H:List AObj}(hs:St C nt k ⟨sl,H⟩ a w){i:Nat}{o o':AObj}(hi:H[i]?=some o)(hl:o.live=true)(hO:∀I m,Ug w I m H.length (m i) o->Ug w I m H.length (m i) o'):
  St C nt k ⟨sl,H.set i o'⟩ a w:=by
 obtain⟨I,m,hw,z1,hk,hf⟩:=hs;refine⟨I,m,hw.swap hi hl (hO I m (hw.obj i o hi)),⟨z1.1,z1.2.1,λt x hx=>?_⟩,by simpa using hk,hf⟩;obtain⟨v,hv,hr⟩:=z1.2.2 t x hx;exact⟨v,hv,by simpa using hr⟩
def Ug.toVa{w:World}{I:Nat->Prop}{m:Nat->Option Nat}{n:Nat}{b? :Option Nat}{e c:Nat}{xs:List AV}(h:Ug w I m n b? (.arr e c xs)):Ug w I m n b? (.va e c xs):=by
 rcases h with h|⟨b,cap,vs,e1,hh,h1,h2,h3,h4,hr⟩
 ·exact .inl h
 exact .inr ⟨b,cap,vs,e1,hh,h1,h2,h3,h4,λi x hx j y hy=>by obtain⟨v,hv,hp⟩:=hr i x hx j y hy;exact⟨v,hv,.pure hp⟩⟩
def Ug.toArr{w:World}{I:Nat->Prop}{m:Nat->Option Nat}{n:Nat}{b? :Option Nat}{e c:Nat}{xs:List AV}(hp:xs.all (λx=>x.cells.all AV.pure)=true)(h:Ug w I m n b? (.va e c xs)):Ug w I m n b? (.arr e c xs):=by
 simp only[zX]at hp;rcases h with h|⟨b,cap,vs,e1,hh,h1,h2,h3,h4,hr⟩
 ·exact .inl h
 exact .inr ⟨b,cap,vs,e1,hh,h1,h2,h3,h4,λi x hx j y hy=>by obtain⟨v,hv,hq⟩:=hr i x hx j y hy;exact⟨v,hv,hq.toPure (hp x (zJ hx) y (zJ hy))⟩⟩
def Jc{cd:Code}{sl:List (Nat×AV)}{H:List AObj}(i:Nat){e c:Nat}{xs:List AV}(hi:H[i]?=some (.arr e c xs))(h:AWP P nt k cd Q ⟨sl,H.set i (.va e c xs)⟩):AWP P nt k cd Q ⟨sl,H⟩:=
 λC a w hs=>h C a w (hs.swap hi rfl (λ_ _=>Ug.toVa))
def P0{cd:Code}{sl:List (Nat×AV)}{H:List AObj}(i:Nat){e c:Nat}{xs:List AV}(hi:H[i]?=some (.va e c xs))(hp:xs.all (λx=>x.cells.all AV.pure)=true)(h:AWP P nt k cd Q ⟨sl,H.set i (.arr e c xs)⟩):AWP P nt k cd Q ⟨sl,H⟩:=
 λC a w hs=>h C a w (hs.swap hi rfl (λ_ _=>Ug.toArr hp))
def Ty{wr:Bool}{sl:List (Nat×AV)}{H:List AObj}(i:Nat){e c:Nat}{xs:List AV}(hi:H[i]?=some (.va e c xs))(hp:xs.all (λx=>x.cells.all AV.pure)=true)(h:Q7 P nt k wr ops o ⟨sl,H.set i (.arr e c xs)⟩ R):Q7 P nt k wr ops o ⟨sl,H⟩ R:=
 λC a w K Q hs=>h C a w K Q (hs.swap hi rfl (λ_ _=>Ug.toArr hp))
def St.freezeO{C:Cx P}{a:Act}{w:World}{sl:List (Nat×AV)}{H:List AObj}(hs:St C nt k ⟨sl,H⟩ a w)(i:Nat){e c:Nat}{xs:List AV}(hi:H[i]?=some (.arr e c xs))(t:Nat){o0:AObj}(ht:H[t]?=some o0)(za:t≠i)(hlo:o0.live=true):
  St C nt k ⟨sl.map λp=>(p.1,p.2.fz i c xs),(H.set i .dead).set t (o0.fz i c xs)⟩ a w:=by
 obtain⟨I,m,hw,z7,hk,hf⟩:=hs;have zc:t<H.length:=(zB.1 ht).1;have z8:Ext w w I (λb=>I b\/m i=some b):=⟨λ_ h=> .inl h,λ_ _=>rfl⟩
 have z6:Fut H.length w I m w (λb=>I b\/m i=some b) m:=⟨z8,λ_ _=>rfl,λ_ _ h=>h⟩
 have hlen:((H.set i .dead).set t (o0.fz i c xs)).length=H.length:=by simp
 have z1:∀(id:Nat) (o:AObj),((H.set i .dead).set t (o0.fz i c xs))[id]?=some o->o.live=true->id≠i/\∃o',H[id]?=some o'/\o'.live=true:=λid o ho hl=>by
  by_cases hid:id=i
  ·subst hid;rw[zE za,zK (zB.1 hi).1]at ho;cases ho;simp[AObj.live]at hl
  by_cases hit:id=t
  ·subst hit;exact⟨hid,_,ht,hlo⟩
  rw[zE (by omega),zE (by omega)]at ho;exact⟨hid,_,ho,hl⟩
 refine⟨λb=>I b\/m i=some b,m,⟨hw.below,λb hb=> .inl (hw.i0 b hb),λb hb=>?_,λid o ho=>?_,λid o b ho hl hm=>?_,λa b oa ob d ha hb la lb ma mb=>?_⟩,⟨z7.1,z7.2.1,λt x hx=>?_⟩,by rw[hlen];exact hk,hf.trans hk z6⟩
 ·rcases hb with hb|hb
  ·exact hw.iw b hb
  have:=hw.own i _ b hi rfl hb;exact⟨this.2.2,.inr this.1⟩
 ·rw[hlen];by_cases hid:id=i
  ·subst hid;rw[zE za,zK (zB.1 hi).1]at ho;cases ho;trivial
  by_cases hit:id=t
  ·subst hit;rw[zK (by simpa using zc)]at ho;cases ho;exact(hw.obj id _ ht).fz hw hi
  rw[zE (by omega),zE (by omega)]at ho;exact Ug.mono (hw.obj id o ho) z6 (zS _) (λ_ _ _=>rfl)
 ·obtain⟨zd,o',zb,hl'⟩:=z1 id o ho hl;have h1:=hw.own id o' b zb hl' hm;refine⟨h1.1,λhc=>?_,h1.2.2⟩;rcases hc with hc|hc
  ·exact h1.2.1 hc
  exact zd (hw.inj id i o' _ b zb hi hl' rfl hm hc)
 ·obtain⟨_,ze,zf,zg⟩:=z1 a oa ha la;obtain⟨_,zh,zi,zj⟩:=z1 b ob hb lb;exact hw.inj a b ze zh d zf zi zg zj ma mb
 rw[hlen];have:=Fm hx;obtain⟨y,hy,rfl⟩:=this;obtain⟨v,hv,hr⟩:=z7.2.2 t y hy;exact⟨v,hv,hr.fz hw hi⟩
def Iz{cd:Code}{sl:List (Nat×AV)}{H:List AObj}(i:Nat){e c:Nat}{xs:List AV}(hi:H[i]?=some (.arr e c xs))(t:Nat){o0:AObj}(ht:H[t]?=some o0)(z1:t≠i)(hlo:o0.live=true)(h:AWP P nt k cd Q ⟨sl.map λp=>(p.1,p.2.fz i c xs),(H.set i .dead).set t (o0.fz i c xs)⟩):AWP P nt k cd Q ⟨sl,H⟩:=
 λC a w hs=>h C a w (hs.freezeO i hi t ht z1 hlo)
def Cz{wr:Bool}{sl:List (Nat×AV)}{H:List AObj}(i:Nat){e c:Nat}{xs:List AV}(hi:H[i]?=some (.arr e c xs))(t:Nat){o0:AObj}(ht:H[t]?=some o0)(z1:t≠i)(hlo:o0.live=true)(h:Q7 P nt k wr ops o ⟨sl.map λp=>(p.1,p.2.fz i c xs),(H.set i .dead).set t (o0.fz i c xs)⟩ R):Q7 P nt k wr ops o ⟨sl,H⟩ R:=
 λC a w K Q hs=>h C a w K Q (hs.freezeO i hi t ht z1 hlo)
end
end
section
open Go.RowKit
def Ug.nrmArr{w:World}{I:Nat->Prop}{m:Nat->Option Nat}{n:Nat}{b? :Option Nat}{e c:Nat}{xs:List AV}(h:Ug w I m n b? (.arr e c xs)):Ug w I m n b? (.arr e c (xs.map AV.nrm)):=by
 rcases h with⟨h,rfl⟩|⟨b,cap,vs,e1,hh,h1,h2,h3,h4,hr⟩
 ·exact .inl ⟨h,rfl⟩
 refine .inr ⟨b,cap,vs,e1,hh,by simpa using h1,h2,h3,λx hx=>?_,λi x hx j y hy=>?_⟩
 ·obtain⟨x',z1,rfl⟩:=zO.1 hx;rw[(w0l x').1];exact h4 x' z1
 rw[zU]at hx;obtain⟨x',z1,rfl⟩:=zQ.1 hx;obtain⟨y',k1,k2⟩:=(w0l x').2 j y hy;obtain⟨v,hv,hp⟩:=hr i x' z1 j y' k1;exact⟨v,hv,k2 _ _ _ hp⟩
section
variable {P:Program} [Env P] {T:TT} {nt k:Nat} {S:AS} {ops:Array Oper} {o:Oper} {R:AS->Prop} {Q:Exit->AS->Prop}
def f0i{cd:Code}{sl:List (Nat×AV)}{H:List AObj}(i:Nat){e c:Nat}{xs:List AV}(hi:H[i]?=some (.arr e c xs))(h:AWP P nt k cd Q ⟨sl,H.set i (.arr e c (xs.map AV.nrm))⟩):AWP P nt k cd Q ⟨sl,H⟩:=
 λC a w hs=>h C a w (hs.swap hi rfl (λ_ _=>Ug.nrmArr))
def Dp {cd:Code} {sl:List (Nat×AV)} {H:List AObj} (i j e sz:Nat) {e':TypeId} {xs:List AV} (hi:H[i]?=some (.va e' 1 xs)) (hj:xs[j]?=some .nils)
  (h:AWP P nt k cd Q ⟨sl,(H++[AObj.arr e sz []]).set i (.va e' 1 (xs.set j (.sl H.length sz 0 0)))⟩):AWP P nt k cd Q ⟨sl,H⟩:=λC a w hs=>by
 obtain⟨I,m,hw,z1,hk,hf⟩:=hs;obtain⟨g1,g2⟩:=hw.push (Below.refl _ _) none (λb e=>by cases e) (.arr e sz []) (λm' _ _=> .inl ⟨rfl,rfl⟩);have z7:i<H.length:=(zB.1 hi).1;have z6:(H++[AObj.arr e sz []])[i]?=some (.va e' 1 xs):=by rw[zH z7];exact hi
 have hO:Ug w I (upd m H.length none) (H++[AObj.arr e sz []]).length (upd m H.length none i) (.va e' 1 (xs.set j (.sl H.length sz 0 0))):=by
  rcases g1.obj i _ z6 with⟨_,rfl⟩|⟨b,cap,vs,e1,hh,h1,h2,h3,h4,hr⟩
  ·simp at hj
  refine .inr ⟨b,cap,vs,e1,hh,by simpa using h1,h2,h3,λx hx=>?_,λq x hx t y hy=>?_⟩
  ·rcases List.mem_or_eq_of_mem_set hx with hx|rfl
   ·exact h4 x hx
   rfl
  by_cases hq:j=q
  ·subst hq;rw[zK (zB.1 hj).1]at hx;cases hx;cases t with
   |zero=>simp only[AV.cells,List.getElem?_cons_zero,Option.some.injEq]at hy;subst hy;obtain⟨v,hv,hp⟩:=hr j _ hj 0 .nils rfl;have:=hp.nils_inv;subst this;exact⟨_,hv,.slnone H.length sz (by simp) (Q6 ..)⟩
   |succ t=>simp[AV.cells]at hy
  rw[zE hq]at hx;exact hr q x hx t y hy
 have g3:=g1.swap z6 rfl hO;have hlen:((H++[AObj.arr e sz []]).set i (.va e' 1 (xs.set j (.sl H.length sz 0 0)))).length=H.length+1:=by simp
 refine h C a w ⟨I,upd m H.length none,g3,⟨z1.1,z1.2.1,λs x hx=>?_⟩,by simp at hk |-;omega,hf.trans hk g2⟩;obtain⟨v,hv,z8⟩:=z1.2.2 s x hx;refine⟨v,hv,?_⟩;have:=z8.mono (n':=H.length+1) g2 (by simp);rw[hlen];exact this
end
end
section
section
variable {P:Program} [Env P] {T:TT} {nt k:Nat} {S:AS}
def K8 (hT:TOk P T) (hm:P.follows .mixedOrders=true) {Q Q':Exit->AS->Prop} {id:Nat} {l:List Oper} {next:Code} (Wr:List Nat) (p:PlanM) (Ph:AS->Prop) (hd:Us nt l=true)
  (hp:(Region.noSelect l.toArray && p.size==l.length && U5 l.toArray (Im l []) Wr p (v_ l.length false))=true)
  (h:I3 P T nt k l.toArray Wr.contains Ph p S) (hn:∀S',Ph S'->AWP P nt k next Q S'):AWP P nt k (.region id l.toArray true) (Pf (AWP P nt k next Q) Q') S:=
 (Js (Q:=λe S=>e= .normal/\Ph S) hT hm Wr p hd hp (E3 (λ_ h=>⟨rfl,h⟩) p S h)).mono λe S ⟨he,hr⟩=>by subst he;exact hn S hr
def Q3{cd:Code}{Q:Exit->AS->Prop}{sl:List (Nat×AV)}{H:List AObj}(h:∀Z,Z=H->AWP P nt k cd Q ⟨sl,Z⟩):AWP P nt k cd Q ⟨sl,H⟩:=h H rfl
def Jl{wr:Bool}{ops:Array Oper}{o:Oper}{R:AS->Prop}{sl:List (Nat×AV)}{H:List AObj}(h:∀Z,Z=H->Q7 P nt k wr ops o ⟨sl,Z⟩ R):Q7 P nt k wr ops o ⟨sl,H⟩ R:=h H rfl
end
end
section
open Go.RowKit Go.Maps
section
variable {P:Program} [Env P] {T:TT} {nt k:Nat} {S:AS} {ops:Array Oper} {o:Oper} {R:AS->Prop} {Q:Exit->AS->Prop}
def WS.still{W0 w:World}{I0 I:Nat->Prop}{m:Nat->Option Nat}{H:List AObj}(hw:WS W0 I0 w I m H){i:Nat}{o:AObj}(hi:H[i]?=some o)(z8:o.live=true):
  WS W0 I0 w (λb=>I b\/m i=some b) m (H.set i .dead)/\Fut H.length w I m w (λb=>I b\/m i=some b) m:=by
 have z7:Ext w w I (λb=>I b\/m i=some b):=⟨λ_ h=> .inl h,λ_ _=>rfl⟩
 have z6:Fut H.length w I m w (λb=>I b\/m i=some b) m:=⟨z7,λ_ _=>rfl,λ_ _ h=>h⟩
 have hlen:(H.set i .dead).length=H.length:=by simp
 have z1:∀(id:Nat) (o:AObj),(H.set i .dead)[id]?=some o->o.live=true->id≠i/\H[id]?=some o:=λid o ho hl=>by
  by_cases hid:id=i
  ·subst hid;rw[zK (zB.1 hi).1]at ho;cases ho;simp[AObj.live]at hl
  rw[zE (by omega)]at ho;exact⟨hid,ho⟩
 refine⟨⟨hw.below,λb hb=> .inl (hw.i0 b hb),λb hb=>?_,λid o ho=>?_,λid o b ho hl hm=>?_,λa b oa ob d ha hb la lb ma mb=>?_⟩,z6⟩
 ·rcases hb with hb|hb
  ·exact hw.iw b hb
  have:=hw.own i _ b hi z8 hb;exact⟨this.2.2,.inr this.1⟩
 ·rw[hlen];by_cases hid:id=i
  ·subst hid;rw[zK (zB.1 hi).1]at ho;cases ho;trivial
  rw[zE (by omega)]at ho;exact Ug.mono (hw.obj id o ho) z6 (zS _) (λ_ _ _=>rfl)
 ·obtain⟨zb,za⟩:=z1 id o ho hl;have h1:=hw.own id o b za hl hm;refine⟨h1.1,λhc=>?_,h1.2.2⟩;rcases hc with hc|hc
  ·exact h1.2.1 hc
  exact zb (hw.inj id i o _ b za hi hl z8 hm hc)
 obtain⟨_,zc⟩:=z1 a oa ha la;obtain⟨_,zd⟩:=z1 b ob hb lb;exact hw.inj a b oa ob d zc zd la lb ma mb
def j0c{es:Array MapEntry}{seen:Array Nat}{e:MapEntry}(h:e∈(leftOf es seen).toList):e∈es.toList:=by unfold leftOf at h;simp at h;simpa using h.1
def As(es:Array MapEntry):leftOf es #[]=es:=by unfold leftOf;exact Array.filter_eq_self.2 (λx _=>by simp)
def G6:∀(L:List MapEntry) (j:Nat) (e:MapEntry),(L.map (·.born)).Nodup->L[j]?=some e->L.filter (λx=> !(x.born==e.born))=L.eraseIdx j
 |[],j,e,_,h=>by simp at h
 |x::L,0,e,hn,h=>by simp at h;subst h;simp only[xJ,u_]at hn;rw[List.eraseIdx_cons_zero,tS,if_neg (by simp)];refine List.filter_eq_self.2 (λy hy=>?_);have:y.born≠x.born:=λh=>hn.1 (by rw[<-h];exact uy hy);simpa using this
 |x::L,j+1,e,hn,h=>by simp at h;simp only[xJ,u_]at hn;have z1:x.born≠e.born:=λh'=>hn.1 (by rw[h'];exact uy (zJ h));rw[List.eraseIdx_cons_succ,tS,if_pos (by simpa using z1),G6 L j e hn.2 h]
def z0o(es:Array MapEntry)(seen:Array Nat)(hn:(es.toList.map (·.born)).Nodup){j:Nat}{e:MapEntry}(h:(leftOf es seen)[j]?=some e):(leftOf es (seen.push e.born)).toList=(leftOf es seen).toList.eraseIdx j:=by
 have h1:(leftOf es seen).toList=es.toList.filter (λx=> !seen.contains x.born):=by simp[leftOf]
 have h2:(leftOf es (seen.push e.born)).toList=es.toList.filter (λx=> !(seen.push e.born).contains x.born):=by simp[leftOf]
 have z1:((leftOf es seen).toList.map (·.born)).Nodup:=by rw[h1];exact hn.sublist ((List.filter_sublist (p:=λx:MapEntry=> !seen.contains x.born) (l:=es.toList)).map _)
 rw[<-G6 _ j e z1 (by rw[wp];exact h),h1,h2,List.filter_filter]
 congr 1
 funext x;rw[contains_push];cases seen.contains x.born<;>cases(x.born==e.born)<;>rfl
def Sg (hT:TOk P T) {wr:Bool} (hw:Qn ops S o=some true) (hd:Wx nt o=true) {t kt et:TypeId} {x:Operand} (ho:o.op= .range t x) {it:TI} (ht:look T t=some it) (hit:it.desc= .map kt et)
  {id:Nat} (hx:rho S.sl x=some (.mref id)) {kvs:List (AV×AV)} (z6:S.hp[id]?=some (.mp kvs))
  (hR:R (({ S with hp:=S.hp.set id .dead++[.it kvs none] }:AS).putD o.dst (.vptr S.hp.length 0))):Q7 P nt k wr ops o S R:=λC a w K' Q hst hK=>by
 unfold OpW;rw[if_pos (hst.wanted hw)];obtain⟨I,m,z7,zb,hk,hE⟩:=hst;have zc:=hT.und ht;rw[hit]at zc;obtain⟨b,hb,_,ze⟩:=(Ql zb hx).mref_inv;obtain⟨b',es,ck,zd,hh,hz,hr⟩:=z7.obj id _ z6;obtain rfl:b=b':=by rw[hb]at zd;exact Option.some.inj zd
 have z8:=run_range_map (P:=P) w t kt et b es ck zc hh;have hex:(execOp a.eval o).run P w= .ok (.value (.pointer (some ⟨w.heap.size,0,none⟩))) (w.alloc (.mapIter (some b) ck #[] ck)):=by simp[execOp,ho,ze,z8]
 obtain⟨s1,s2⟩:=z7.still z6 rfl;have za:Below w.heap.size w (w.alloc (.mapIter (some b) ck #[] ck)):=(Below.refl _ _).alloc (zS _) _;have z1:(w.alloc (.mapIter (some b) ck #[] ck)).heap[w.heap.size]?=some (.mapIter (some b) ck #[] ck):=heap_alloc_new w _;have zf:b<w.heap.size:=(z7.own id _ b z6 rfl hb).2.2;have hold:(w.alloc (.mapIter (some b) ck #[] ck)).heap[b]?=some (.map es ck):=by rw[za.block b zf];exact hh
 obtain⟨g1,g2⟩:=s1.push za (some w.heap.size) (λc e=>by injection e with e;subst e;exact⟨zS _,(yT.1 z1).1⟩) (.it kvs none) (λm' hf hm=>⟨w.heap.size,b,es,ck,ck,#[],ck,rfl,z1,.inr hb,hold,hz.born,zS _,zS _,hz.nodup,by rw[As];exact hz.size,
  λi e p he hp=>by rw[As]at he;exact⟨((hr i e p he hp).1.mono s2.ext).mono hf.ext,((hr i e p he hp).2.mono s2.ext).mono hf.ext⟩,λp hp=>by cases hp⟩)
 unfold wpA;rw[hex];have hl:(S.hp.set id .dead).length=S.hp.length:=by simp
 rw[hl]at g1 g2;refine hK _ _ _ hR (St.value zb hk hE g1 (s2.trans (zS _) g2) (by simp) (Qi hd) (.vptr _ _ _ (by simp) (Q6 _ _ _))) (λ_=>Tu.of_below za)
def Aj (hw:Qn ops S o=some true) (hd:Wx nt o=true) {x:Operand} (ho:o.op= .next x false) {id:Nat} (hx:rho S.sl x=some (.vptr id 0)) {left:List (AV×AV)} {cur:Option (AV×AV)} (zh:S.hp[id]?=some (.it left cur))
  (zl:left=[]->R (S.putD o.dst (.tup [.bool false])))
  (zm:∀(j:Nat) (p:AV×AV),left[j]?=some p->R (({ S with hp:=S.hp.set id (.it (left.eraseIdx j) (some p)) }:AS).putD o.dst (.tup [.bool true,p.1,p.2]))):Q7 P nt k true ops o S R:=λC a w K' Q hst hK=>by
 unfold OpW;rw[if_pos (hst.wanted hw)];obtain⟨I,m,zb,zc,hk,hE⟩:=hst;obtain⟨r,hb,_,zi⟩:=(Ql zc hx).vptr_inv;obtain⟨r',bm,es,ck,since,seen,c0,zj,hh,hI,hm,h1,h2,h3,h4,h5,hr,zu⟩:=zb.obj id _ zh;obtain rfl:r=r':=by rw[hb]at zj;exact Option.some.inj zj
 unfold wpA;rcases run_next_at (P:=P) w o.type r bm since c0 seen es ck hh hm h1 h2 with⟨hz,z7⟩|⟨e,he,w1,zd,z7⟩
 ·have hl:left=[]:=wI (by rw[<-h5];exact hz);have hex:(execOp a.eval o).run P w= .ok (.value (.tuple #[.bool false])) w:=by simp[execOp,ho,zi,z7]
  rw[hex];refine hK _ _ _ (zl hl) (St.value zc hk hE zb (Fut.refl _ _ _ _) (zS _) (Qi hd) (.pure (.tup _ _ rfl (λi v x hv hx=>?_)))) (λe=>by cases e);cases i with
  |zero=>simp at hv hx;subst hv;subst hx;exact .bool _
  |succ i=>simp at hx
 obtain⟨j,hj,rfl⟩:=yX he;have zn:j<(leftOf es seen).size:=by simpa using hj
 have ze:(leftOf es seen)[j]?=some ((leftOf es seen).toList[j]):=by simp[zn]
 generalize (leftOf es seen).toList[j]=e at *
 obtain⟨p,hp⟩:∃p,left[j]?=some p:=⟨left[j]'(by omega),by simp⟩
 have zv:es.toList.Nodup\/True:= .inr trivial;have zo:w1.heap[r]?=some (.mapIter (some bm) since seen c0):=by rcases zd with rfl|rfl<;>exact hh
 have zp:w1.heap[bm]?=some (.map es ck):=by rcases zd with rfl|rfl<;>exact hm
 have z8:=MapKept.heap_set (o':= .mapIter (some bm) since (seen.push e.born) ck) zo;have zq:bm≠r:=λh=>by rw[h,hh]at hm;cases hm
 have zr:(ChangeMaps.setBlock w1 r (.mapIter (some bm) since (seen.push e.born) ck)).heap[bm]?=some (.map es ck):=(z8.2 bm zq).trans zp;have hg:w.grownBy (ChangeMaps.setBlock w1 r (.mapIter (some bm) since (seen.push e.born) ck)) (some r):=by rcases zd with rfl|rfl<;>exact⟨rfl,rfl,rfl,by simp[ChangeMaps.setBlock],λi _ hi=>z8.2 i (λe1=>hi (by rw[e1]))⟩
 have z1:w.shape? r=none:=by simp[World.shape?,hh]
 have z6:=z0o es seen h4 ze;have zt:(leftOf es (seen.push e.born)).size=(left.eraseIdx j).length:=by have:=congrArg List.length z6;rw[wK,uD,wK]at this;rw[this,uD,h5]
 have zk:∀(i:Nat) (x:MapEntry) (q:AV×AV),(leftOf es (seen.push e.born))[i]?=some x->(left.eraseIdx j)[i]?=some q->PVR w I x.key q.1/\PVR w I x.val q.2:=by
  intro i x q hx hq;rw[<-wp,z6,tg]at hx;rw[tg]at hq;split at hx
  ·rename_i zf;rw[if_pos zf]at hq;exact hr i x q (by rw[<-wp];exact hx) hq
  rename_i zf;rw[if_neg zf]at hq;exact hr (i+1) x q (by rw[<-wp];exact hx) hq
 have za:=hr j e p ze hp;have zg:e∈es.toList:=j0c (Array.mem_toList_iff.2 (uv ze));obtain⟨g1,g2⟩:=zb.set (o':= .it (left.eraseIdx j) (some p)) zh rfl hb hg (λs hs=>by rw[z1]at hs;cases hs) (λm' hf=>⟨r,bm,es,ck,since,seen.push e.born,ck,rfl,z8.1,hI,zr,h1,h3,h3,h4,zt,λi x q hx hq=>⟨(zk i x q hx hq).1.mono hf.ext,(zk i x q hx hq).2.mono hf.ext⟩,λq hq=>by cases hq;exact⟨e,seen,rfl,rfl,zg,za.1.mono hf.ext,za.2.mono hf.ext⟩⟩);have hex:(execOp a.eval o).run P w= .ok (.value (.tuple #[.bool true,e.key,e.val])) (ChangeMaps.setBlock w1 r (.mapIter (some bm) since (seen.push e.born) ck)):=by simp[execOp,ho,zi,z7]
 rw[hex];refine hK _ _ _ (zm j p hp) (St.value zc hk hE g1 g2 (by simp) (Qi hd) (.pure (.tup _ _ rfl (λi v x hv hx=>?_)))) (λe=>by cases e)
 match i,hv,hx with
 |0,hv,hx=>simp at hv hx;subst hv;subst hx;exact .bool _
 |1,hv,hx=>simp at hv hx;subst hv;subst hx;exact za.1.mono g2.ext
 |2,hv,hx=>simp at hv hx;subst hv;subst hx;exact za.2.mono g2.ext
 |i+3,hv,hx=>simp at hx
def Oc {wr:Bool} (hw:Qn ops S o=some true) (hd:Wx nt o=true) {x:Operand} (ho:o.op= .entry x) {id:Nat} (hx:rho S.sl x=some (.vptr id 0)) {left:List (AV×AV)} {p:AV×AV} (za:S.hp[id]?=some (.it left (some p)))
  (hR:R (S.putD o.dst (.tup [p.1,p.2]))):Q7 P nt k wr ops o S R:=λC a w K' Q hst hK=>by
 unfold OpW;rw[if_pos (hst.wanted hw)];obtain⟨I,m,z6,z7,hk,hE⟩:=hst;obtain⟨r,hb,_,zb⟩:=(Ql z7 hx).vptr_inv;obtain⟨r',bm,es,ck,since,seen,c0,z8,hh,hI,hm,h1,h2,h3,h4,h5,hr,zc⟩:=z6.obj id _ za;obtain rfl:r=r':=by rw[hb]at z8;exact Option.some.inj z8
 obtain⟨e,sn,rfl,rfl,he,zd,ze⟩:=zc p rfl;unfold wpA;have z1:=run_entry_at (P:=P) w r bm since sn es c0 e hh hm he h4;have hex:(execOp a.eval o).run P w= .ok (.value (.tuple #[e.key,e.val])) w:=by simp[execOp,ho,zb,z1]
 rw[hex];refine hK _ _ _ hR (St.value z7 hk hE z6 (Fut.refl _ _ _ _) (zS _) (Qi hd) (.pure (.tup _ _ rfl (λi v x hv hx=>?_)))) (λ_=>Tu.refl w)
 match i,hv,hx with
 |0,hv,hx=>simp at hv hx;subst hv;subst hx;exact zd
 |1,hv,hx=>simp at hv hx;subst hv;subst hx;exact ze
 |i+2,hv,hx=>simp at hx
end
end
section
open Go.RowKit Go.Maps
section
variable {P:Program} [Env P] {T:TT} {nt k:Nat} {S:AS} {ops:Array Oper} {o:Oper} {R:AS->Prop} {Q:Exit->AS->Prop}
def U7 (hT:TOk P T) {wr:Bool} (hw:Qn ops S o=some true) (hd:Wx nt o=true) {t kt et:TypeId} {x ix:Operand} (ho:o.op= .lookup t x ix true) {it ei:TI} (ht:look T t=some it) (hit:it.desc= .map kt et) (he:look T et=some ei)
  (K:Keyed P kt) {id:Nat} (hx:rho S.sl x=some (.mref id)) {kx:AV} (zd:rho S.sl ix=some kx) {kvs:List (AV×AV)} (ze:S.hp[id]?=some (.mp kvs)) (zf:isKey P kt kx) (zg:∀p∈kvs,isKey P kt p.1) {z:AV} (hz:z.val=some ei.zero)
  (zh:∀(j:Nat) (p:AV×AV),kvs[j]?=some p->p.1=kx->R (S.putD o.dst (.tup [p.2,.bool true]))) (zi:(∀p∈kvs,p.1≠kx)->R (S.putD o.dst (.tup [z,.bool false]))):Q7 P nt k wr ops o S R:=λC a w K' Q hst hK=>by
 unfold OpW;rw[if_pos (hst.wanted hw)];obtain⟨I,m,z7,z6,hk,hE⟩:=hst;have z8:=hT.und ht;rw[hit]at z8;obtain⟨b,hb,_,zb⟩:=(Ql z6 hx).mref_inv;obtain⟨u,lk,hu,za⟩:=zf;have zj:kx.pure=true:=AV.kv_pure hu;have z1:=((Ql z6 zd).toPure zj).kv hu;obtain⟨b',es,ck,zc,hh,zk,hr⟩:=z7.obj id _ ze;have hl:=zk.size;obtain rfl:b=b':=by rw[hb]at zc;exact Option.some.inj zc
 have zl:=hT.zero he w;have two:∀(v:Value) (y:AV) (q:Bool),PVR w I v y->PVR w I (.tuple #[v,.bool q]) (.tup [y,.bool q]):=λv y q h=> .tup _ _ rfl (λi v' x' hv hx=>by
  match i with
  |0=>simp at hv hx;subst hv hx;exact h
  |1=>simp at hv hx;subst hv hx;exact .bool _
  |i+2=>simp at hv)
 unfold wpA;rcases Od K hl (λi e p a b=>(hr i e p a b).1) hu za zg with⟨h1,h2⟩|⟨j,e,p,h1,h2,h3,h4,h5⟩
 ·have:(execOp a.eval o).run P w= .ok (.value (.tuple #[ei.zero,.bool false])) w:=by simp[execOp,ho,zb,z1,Instr.lookup,run_underlying z8,MapKept.run_getObj_map hh,K.check w _ za,h1,zl,Result.andThen]
  rw[this];refine hK _ _ w (zi h2) (St.value z6 hk hE z7 (Fut.refl _ _ _ _) (zS _) (Qi hd) (.pure (two _ _ _ ?_))) (λ_=>Tu.refl w);cases z<;>simp[AV.val]at hz<;>rw[<-hz]
  ·exact .bool _
  ·exact .int _ _
  exact .str _
 have:(execOp a.eval o).run P w= .ok (.value (.tuple #[e.val,.bool true])) w:=by simp[execOp,ho,zb,z1,Instr.lookup,run_underlying z8,MapKept.run_getObj_map hh,K.check w _ za,h1,Result.andThen]
 rw[this];exact hK _ _ w (zh j p h3 h4) (St.value z6 hk hE z7 (Fut.refl _ _ _ _) (zS _) (Qi hd) (.pure (two _ _ _ (hr j e p h2 h3).2))) (λ_=>Tu.refl w)
end
end
section
open Go.RowKit Go.Maps
section
variable {P:Program} [Env P] {T:TT} {nt k:Nat} {S:AS} {ops:Array Oper} {o:Oper} {R:AS->Prop} {Q:Exit->AS->Prop}
def WS.stillM{W0 w:World}{I0 I:Nat->Prop}{m:Nat->Option Nat}{H:List AObj}(hw:WS W0 I0 w I m H){i:Nat}{kvs:List (AV×AV)}(hi:H[i]?=some (.mp kvs)):
  WS W0 I0 w (λb=>I b\/m i=some b) m (H.set i (.fm kvs))/\Fut H.length w I m w (λb=>I b\/m i=some b) m:=by
 obtain⟨s1,s2⟩:=hw.still hi rfl;have z1:∀(id:Nat) (o:AObj),(H.set i (.fm kvs))[id]?=some o->id≠i->(H.set i .dead)[id]?=some o:=λid o ho z6=>by rw[zE (by omega)]at ho |-;exact ho
 have z6:∀(id:Nat) (o:AObj),(H.set i (.fm kvs))[id]?=some o->o.live=true->id≠i:=λid o ho hl hid=>by subst hid;rw[zK (zB.1 hi).1]at ho;cases ho;simp[AObj.live]at hl
 refine⟨⟨s1.below,s1.i0,s1.iw,λid o ho=>?_,λid o b ho hl hm=>s1.own id o b (z1 id o ho (z6 id o ho hl)) hl hm,λa b oa ob d ha hb la lb ma mb=>s1.inj a b oa ob d (z1 a oa ha (z6 a oa ha la)) (z1 b ob hb (z6 b ob hb lb)) la lb ma mb⟩,s2⟩;by_cases hid:id=i
 ·subst hid;rw[zK (zB.1 hi).1]at ho;cases ho;obtain⟨b,es,ck,hb,hh,hz,hr⟩:=hw.obj id _ hi;exact⟨b,es,ck,hb,.inr hb,hh,hz,λj e p a c=>⟨(hr j e p a c).1.mono s2.ext,(hr j e p a c).2.mono s2.ext⟩⟩
 have h1:=s1.obj id o (z1 id o ho hid);have e1:(H.set i (.fm kvs)).length=(H.set i AObj.dead).length:=by simp
 rw[e1];exact h1
def Md (hT:TOk P T) {wr:Bool} (hw:Qn ops S o=some true) (hd:Wx nt o=true) {t kt et:TypeId} {x:Operand} (ho:o.op= .range t x) {it:TI} (ht:look T t=some it) (hit:it.desc= .map kt et)
  {id:Nat} (hx:rho S.sl x=some (.mref id)) {kvs:List (AV×AV)} (z6:S.hp[id]?=some (.mp kvs))
  (hR:R (({ S with hp:=S.hp.set id (.fm kvs)++[.it kvs none] }:AS).putD o.dst (.vptr S.hp.length 0))):Q7 P nt k wr ops o S R:=λC a w K' Q hst hK=>by
 unfold OpW;rw[if_pos (hst.wanted hw)];obtain⟨I,m,z7,zb,hk,hE⟩:=hst;have zc:=hT.und ht;rw[hit]at zc;obtain⟨b,hb,_,ze⟩:=(Ql zb hx).mref_inv;obtain⟨b',es,ck,zd,hh,hz,hr⟩:=z7.obj id _ z6;obtain rfl:b=b':=by rw[hb]at zd;exact Option.some.inj zd
 have z8:=run_range_map (P:=P) w t kt et b es ck zc hh;have hex:(execOp a.eval o).run P w= .ok (.value (.pointer (some ⟨w.heap.size,0,none⟩))) (w.alloc (.mapIter (some b) ck #[] ck)):=by simp[execOp,ho,ze,z8]
 obtain⟨s1,s2⟩:=z7.stillM z6;have za:Below w.heap.size w (w.alloc (.mapIter (some b) ck #[] ck)):=(Below.refl _ _).alloc (zS _) _;have z1:(w.alloc (.mapIter (some b) ck #[] ck)).heap[w.heap.size]?=some (.mapIter (some b) ck #[] ck):=heap_alloc_new w _;have zf:b<w.heap.size:=(z7.own id _ b z6 rfl hb).2.2;have hold:(w.alloc (.mapIter (some b) ck #[] ck)).heap[b]?=some (.map es ck):=by rw[za.block b zf];exact hh
 obtain⟨g1,g2⟩:=s1.push za (some w.heap.size) (λc e=>by injection e with e;subst e;exact⟨zS _,(yT.1 z1).1⟩) (.it kvs none) (λm' hf hm=>⟨w.heap.size,b,es,ck,ck,#[],ck,rfl,z1,.inr hb,hold,hz.born,zS _,zS _,hz.nodup,by rw[As];exact hz.size,
  λi e p he hp=>by rw[As]at he;exact⟨((hr i e p he hp).1.mono s2.ext).mono hf.ext,((hr i e p he hp).2.mono s2.ext).mono hf.ext⟩,λp hp=>by cases hp⟩)
 unfold wpA;rw[hex];have hl:(S.hp.set id (.fm kvs)).length=S.hp.length:=by simp
 rw[hl]at g1 g2;refine hK _ _ _ hR (St.value zb hk hE g1 (s2.trans (zS _) g2) (by simp) (Qi hd) (.vptr _ _ _ (by simp) (Q6 _ _ _))) (λ_=>Tu.of_below za)
def C9 (hT:TOk P T) {wr:Bool} (hw:Qn ops S o=some true) (hd:Wx nt o=true) {t kt et:TypeId} {x ix:Operand} (ho:o.op= .lookup t x ix false) {it ei:TI} (ht:look T t=some it) (hit:it.desc= .map kt et) (he:look T et=some ei)
  (K:Keyed P kt) {id:Nat} (hx:rho S.sl x=some (.mref id)) {kx:AV} (zd:rho S.sl ix=some kx) {kvs:List (AV×AV)} (ze:S.hp[id]?=some (.fm kvs)) (zf:isKey P kt kx) (zg:∀p∈kvs,isKey P kt p.1) {z:AV} (hz:z.val=some ei.zero)
  (zh:∀(j:Nat) (p:AV×AV),kvs[j]?=some p->p.1=kx->R (S.putD o.dst p.2)) (zi:(∀p∈kvs,p.1≠kx)->R (S.putD o.dst z)):Q7 P nt k wr ops o S R:=λC a w K' Q hst hK=>by
 unfold OpW;rw[if_pos (hst.wanted hw)];obtain⟨I,m,z7,z6,hk,hE⟩:=hst;have z8:=hT.und ht;rw[hit]at z8;obtain⟨b,hb,_,zb⟩:=(Ql z6 hx).mref_inv;obtain⟨u,lk,hu,za⟩:=zf;have zj:kx.pure=true:=AV.kv_pure hu;have z1:=((Ql z6 zd).toPure zj).kv hu;obtain⟨b',es,ck,zc,_,hh,zk,hr⟩:=z7.obj id _ ze;have hl:=zk.size;obtain rfl:b=b':=by rw[hb]at zc;exact Option.some.inj zc
 have zl:=hT.zero he w;unfold wpA;rcases Od K hl (λi e p a b=>(hr i e p a b).1) hu za zg with⟨h1,h2⟩|⟨j,e,p,h1,h2,h3,h4,h5⟩
 ·have:(execOp a.eval o).run P w= .ok (.value ei.zero) w:=by simp[execOp,ho,zb,z1,Instr.lookup,run_underlying z8,MapKept.run_getObj_map hh,K.check w _ za,h1,zl,Result.andThen]
  rw[this];refine hK _ _ w (zi h2) (St.value z6 hk hE z7 (Fut.refl _ _ _ _) (zS _) (Qi hd) (.pure ?_)) (λ_=>Tu.refl w);cases z<;>simp[AV.val]at hz<;>rw[<-hz]
  ·exact .bool _
  ·exact .int _ _
  exact .str _
 have:(execOp a.eval o).run P w= .ok (.value e.val) w:=by simp[execOp,ho,zb,z1,Instr.lookup,run_underlying z8,MapKept.run_getObj_map hh,K.check w _ za,h1,Result.andThen]
 rw[this];exact hK _ _ w (zh j p h3 h4) (St.value z6 hk hE z7 (Fut.refl _ _ _ _) (zS _) (Qi hd) (.pure (hr j e p h2 h3).2)) (λ_=>Tu.refl w)
end
end
def rD{α:Type}:Result α->Nat
 | .ok _ w=>w.drawn
 | .halt _ w=>w.drawn
def c0q{α:Type}:∀(k:Ask α) (w:World),w.drawn<=(w.ask k).2.drawn
 | .done a,w=>by simp[World.ask]
 | .ask what range k,w=>by
  unfold World.ask;simp only[];split
  ·exact c0q _ w
  exact yP (ul _) (c0q (k _) { w with drawn:=w.drawn+1 })
def g2h(w:World)(c:Sys):w.drawn<=(w.sys c).2.drawn:=by
 unfold World.sys;have:=c0q (Kernel.perform c w.os) w;split
 ·exact zS _
 rename_i h;exact(h▸this:w.drawn<=_)
def y2k{p:Program}{w w':World}{x:Addr}{u:TypeId}{a:Addr}{v:Value}{b:Bool}{l:List Addr}(h:w.viewStore p x u a v b= .ok (w',l)):w'.drawn=w.drawn:=by
 unfold World.viewStore at h;simp only[bind,Except.bind,pure,Except.pure,throw,throwThe,MonadExceptOf.throw]at h
 repeat' first
  |(simp at h;done)
  |(simp only[Except.ok.injEq,Prod.mk.injEq]at h;rw[<-h.1];done)
  |split at h
def j2z{p:Program}{w w':World}{a:Addr}{v:Value}{b:Bool}{l:List Addr}(h:w.farStore p a v b= .ok (w',l)):w'.drawn=w.drawn:=by
 unfold World.farStore at h;split at h
 ·split at h
  ·rename_i r hr;obtain rfl:=Except.ok.inj h;exact y2k hr
  cases h
 cases h
def u1u(w:World)(a:Addr)(n:Nat):(w.freeze a n).drawn=w.drawn:=by unfold World.freeze;first|rfl|(split<;>rfl)
def x0k{α:Type}(p:Program)(s:Sem α)(w:World):w.drawn<=rD (s.run p w):=by
 induction s generalizing w with
 |pure a=>exact zS _
 |load m a k ih=>
  simp only[Sem.run];split
  ·exact ih _ _
  split
  ·exact ih _ _
  exact zS _
 |store m a v k ih=>
  have key:w.drawn<=rD (match w.cell? a with
   |some _=>if w.frozen? a then .halt (.unsupported (.unsafePointer "a write to bytes that a string shares")) w else k.run p (w.setCell a v)
   |none=>match w.farStore p a v (m== .atomic)with
    | .ok (w,_)=>k.run p w
    | .error h=> .halt h w):=by
   split
   ·split
    ·exact zS _
    exact ih (w.setCell a v)
   split
   ·rename_i hf;have:=j2z hf;rw[<-this];exact ih _
   exact zS _
  cases v<;>first|exact key|exact zS _
 |new o k ih=>exact ih _ { w with heap:=w.heap.push o }
 |shape r k ih=>exact ih _ _
 |freeze a n k ih=>simp only[Sem.run];have:=ih (w.freeze a n);rw[u1u]at this;exact this
 |frozen a k ih=>exact ih _ _
 |getObj r k ih=>simp only[Sem.run];split<;>first|exact zS _|exact ih _ _
 |setObj r o k ih=>simp only[Sem.run];split<;>first|exact zS _|exact ih { w with heap:=w.heap.setIfInBounds r o }
 |choose q k ih=>
  simp only[Sem.run];split
  ·exact ih _ _
  exact yP (ul _) (ih _ { w with drawn:=w.drawn+1 })
 |sys c k ih=>exact yP (g2h w c) (ih _ _)
 |program k ih=>exact ih _ _
 |mark m k ih=>exact ih _
 |halt h=>exact zS _
def of_run{α:Type}{p:Program}{s:Sem α}{w:World}{r:Result α}(h:s.run p w=r):w.drawn<=rD r:=by rw[<-h];exact x0k p s w
def z14{α:Type}{p:Program}{s:Sem α}{w w':World}{v:α}(h:s.run p w= .ok v w'):w.drawn<=w'.drawn:=of_run h
def Gx{α:Type}{p:Program}{s:Sem α}{w:World}{es:Array Event}{r:Result α}(h:(s.runT p w es).1=r):w.drawn<=rD r:=by have:=x0k p s w;rw[<-Sem.runT_fst p s w es,h]at this;exact this
def V9{α:Type}{p:Program}{s:Sem α}{w:World}{es es':Array Event}{r:Result α}(h:s.runT p w es=(r,es')):w.drawn<=rD r:=by have:=x0k p s w;rw[<-Sem.runT_fst p s w es,h]at this;exact this
def gD(d:Nat):GStep->Prop
 | .ended .. =>True
 | .go _ w _=>d<=w.drawn
 | .comm _ _ _ _ w _=>d<=w.drawn
 | .spawn _ _ w _=>d<=w.drawn
 | .count _ w _=>d<=w.drawn
 | .timer _ _ w _=>d<=w.drawn
 | .alone _ _ w _=>d<=w.drawn
 | .newcoro _ _ _ w _=>d<=w.drawn
 | .coroswitch _ _ _ w _=>d<=w.drawn
 | .collect _ w _=>d<=w.drawn
 | .watch _ w _=>d<=w.drawn
def Dm{d:Nat}{es:Array Event}{s:GStep}:gD d (GStep.after es s)↔gD d s:=by cases s<;>exact Iff.rfl
def gD.le{d d':Nat}{s:GStep}(h:gD d' s)(hd:d<=d'):gD d s:=by cases s<;>first|trivial|exact yP hd h
def d2h{c:Prop}[Decidable c]{a b:GStep}{d:Nat}(h1:gD d a)(h2:gD d b):gD d (if c then a else b):=by split<;>assumption
def f2t(fr:Frame)(l:List ByteArray)(m:String)(b:Bool)(w:World):gD w.drawn (dieOf fr l m b w):=zS _
def Hv(fr:Frame)(m:String)(w:World):gD w.drawn (endThrow fr m w):=zS _
def J2(p:Program)(fr:Frame)(v:Value)(w:World):gD w.drawn (endPrinting p fr v w):=by unfold endPrinting;simp only[];split<;>first|exact Hv _ _ _|trivial
def x05(p:Program)(fr:Frame)(c:List Frame)(d:Option Dying)(m:String)(w:World):gD w.drawn (endFatal p fr c d m w):=by
 unfold endFatal;simp only[];split
 ·rename_i h;exact(f2t _ _ _ _ _).le (z14 h)
 ·trivial
 trivial
def f0b(w:World)(fd:Nat)(t:ByteArray)(o:Outcome)(d:Nat):gD d (endWith w fd t o):=by
 unfold endWith;simp only[];split
 ·split<;>trivial
 ·trivial
 trivial
def k04(p:Program)(fr:Frame)(d:Dying)(f:Fatal)(w:World):gD w.drawn (writeOn p fr d f w):=by
 unfold writeOn;simp only[];split
 ·trivial
 split
 ·rename_i h;exact V9 h
 ·rename_i h;exact V9 h
 ·trivial
 trivial
def d0w(p:Program)(main:Bool)(fr:Frame)(c:List Frame)(d:Option Dying)(v:Value)(w:World):gD w.drawn (doReturn p main fr c d v w):=by
 unfold doReturn;simp only[]
 repeat' first
  |exact zS _
  |trivial
  |split
def Bj(p:Program)(fr:Frame)(c:List Frame)(d:Option Dying)(g:Nat)(w:World):gD w.drawn (early p fr c d g w):=by
 unfold early;simp only[]
 repeat' first
  |exact zS _
  |trivial
  |(have h0:=of_run ‹Sem.run _ _ _=Result.ok _ _›;exact h0)
  |split
def u2y(p:Program)(fr:Frame)(d:Dying)(w:World):gD w.drawn (die p fr d w):=by
 unfold die;simp only[]
 repeat' first
  |exact zS _
  |trivial
  |exact k04 _ _ _ _ _
  |exact f0b _ _ _ _ _
  |(have h0:=of_run ‹Sem.run _ _ _=Result.ok _ _›;exact h0)
  |(have h0:=Gx ‹(Sem.runT _ _ _ _).fst=Result.ok _ _›;exact h0)
  |exact(J2 _ _ _ _).le (Gx ‹(Sem.runT _ _ _ _).fst=Result.halt _ _›)
  |(refine Dm.2 ?_)
  |split
def y0y(p:Program)(fr:Frame)(c:List Frame)(dy:Option Dying)(d:Deferred)(w:World):gD w.drawn (callDeferred p fr c dy d w):=by
 unfold callDeferred;refine d2h trivial ?_
 ·generalize z1:(invoke d.target d.args).runT p w #[]=re;obtain⟨r,es⟩:=re;have hr:=V9 z1;simp only[Dm];cases r with
  |ok n w'=>
   cases n<;>(try dsimp only)<;>repeat' first
    |exact hr
    |(have h0:=‹Result.ok _ _=Result.ok _ _›;simp at h0;done)
    |(have h0:=‹Result.ok _ _=Result.ok _ _›;simp only[Result.ok.injEq]at h0;obtain⟨_,rfl⟩:=h0;exact hr)
    |trivial
    |split
  |halt h w'=>
   cases h<;>(try dsimp only)<;>repeat' first
    |exact hr
    |(have h0:=‹Result.halt _ _=Result.halt _ _›;simp at h0;done)
    |(have h0:=‹Result.halt _ _=Result.halt _ _›;simp only[Result.halt.injEq]at h0;obtain⟨_,rfl⟩:=h0;exact hr)
    |(have h0:=‹Result.halt _ _=Result.halt _ _›;simp only[Result.halt.injEq]at h0;obtain⟨_,rfl⟩:=h0;exact(Bj _ _ _ _ _ _).le hr)
    |trivial
    |exact(x05 _ _ _ _ _ _).le hr
    |exact(Hv _ _ _).le hr
    |split
def w1b(p:Program)(main:Bool)(fr:Frame)(c:List Frame)(dy:Option Dying)(w:World):gD w.drawn (unwind p main fr c dy w):=by
 unfold unwind;simp only[]
 repeat' first
  |exact zS _
  |trivial
  |exact y0y _ _ _ _ _ _
  |exact d0w _ _ _ _ _ _ _
  |exact J2 _ _ _ _
  |(have h0:=of_run ‹Sem.run _ _ _=Result.ok _ _›;exact h0)
  |(have h0:=Gx ‹(Sem.runT _ _ _ _).fst=Result.ok _ _›;exact h0)
  |exact(d0w _ _ _ _ _ _ _).le (Gx ‹(Sem.runT _ _ _ _).fst=Result.ok _ _›)
  |(refine Dm.2 ?_)
  |split
def Vf(p:Program)(listen:Bool)(fr:Frame)(c:List Frame)(dy:Option Dying)(s:Sem Next)(w:World):gD w.drawn (stepG.apply p listen fr c dy s w):=by
 unfold stepG.apply;simp only[];generalize z1:(if listen=true then s.runT p w #[]else(s.run p w,#[]))=re;obtain⟨r,es⟩:=re;have hr:w.drawn<=rD r:=by
  split at z1
  ·exact V9 z1
  have:=x0k p s w;rw[(Prod.mk.inj z1).1]at this;exact this
 simp only[Dm];cases r with
 |ok n w'=>
  cases n<;>(try dsimp only)<;>repeat' first
   |exact hr
   |(have h0:=‹Result.ok _ _=Result.ok _ _›;simp at h0;done)
   |(have h0:=‹Result.ok _ _=Result.ok _ _›;simp only[Result.ok.injEq]at h0;obtain⟨_,rfl⟩:=h0;exact hr)
   |trivial
   |exact(Hv _ _ _).le hr
   |split
 |halt h w'=>
  cases h<;>(try dsimp only)<;>repeat' first
   |exact hr
   |(have h0:=‹Result.halt _ _=Result.halt _ _›;simp at h0;done)
   |(have h0:=‹Result.halt _ _=Result.halt _ _›;simp only[Result.halt.injEq]at h0;obtain⟨_,rfl⟩:=h0;exact hr)
   |(have h0:=‹Result.halt _ _=Result.halt _ _›;simp only[Result.halt.injEq]at h0;obtain⟨_,rfl⟩:=h0;exact(Bj _ _ _ _ _ _).le hr)
   |trivial
   |exact(x05 _ _ _ _ _ _).le hr
   |exact(Hv _ _ _).le hr
   |exact(Bj _ _ _ _ _ _).le hr
   |split
def y27(p:Program)(listen:Bool)(fr:Frame)(c:List Frame)(dy:Option Dying)(w:World):gD w.drawn (stepG.oper p listen fr c dy w):=by
 unfold stepG.oper
 repeat' first
  |trivial
  |exact Vf _ _ _ _ _ _ _
  |split
def u2v(p:Program)(main listen:Bool)(fr:Frame)(c:List Frame)(dy:Option Dying)(w:World):gD w.drawn (stepG.exec p main listen fr c dy w):=by
 unfold stepG.exec;dsimp only
 repeat' first
  |exact zS _
  |trivial
  |exact Vf _ _ _ _ _ _ _
  |exact y27 _ _ _ _ _ _
  |(simp only[Option.elim];split)
  |(have h0:=of_run ‹Sem.run _ _ _=Result.ok _ _›;exact h0)
  |(have h0:=Gx ‹(Sem.runT _ _ _ _).fst=Result.ok _ _›;exact h0)
  |exact(Vf _ _ _ _ _ _ _).le (Gx ‹(Sem.runT _ _ _ _).fst=Result.ok _ _›)
  |(have h0:=Gx ‹(Sem.runT _ _ _ _).fst=Result.halt _ _›;exact h0)
  |exact(d0w _ _ _ _ _ _ _).le (Gx ‹(Sem.runT _ _ _ _).fst=Result.ok _ _›)
  |(refine Dm.2 ?_)
  |split
def y2g(p:Program)(main:Bool)(g:Goroutine)(w:World)(listen:Bool):gD w.drawn (stepG p main g w listen):=by
 unfold stepG;simp only[]
 repeat' first
  |exact u2y _ _ _ _
  |exact u2v _ _ _ _ _ _ _
  |exact w1b _ _ _ _ _ _
  |split
def v2i{rest:Rest}{cases:Array CommCase}{w w':World}(h:waitingAt rest cases w=some w'):w'.drawn=w.drawn:=by
 unfold waitingAt at h
 repeat' first
  |(simp at h;done)
  |(simp only[Option.some.injEq]at h;subst h;rfl)
  |split at h
def u25(p:Program)(rest:Rest)(gs:Array Goroutine)(i:Nat)(g:Goroutine)(cases:Array CommCase)(blocking:Bool)(shape:CommShape)(w:World)(m':Machine)(h:(communicate p rest gs i g cases blocking shape w).1= .next m'):w.drawn<=m'.world.drawn:=by
 unfold communicate at h;simp only[]at h
 repeat' first
  |(simp at h;done)
  |(simp only[Stepped.next.injEq]at h;subst h;exact zS _)
  |(simp only[Stepped.next.injEq]at h;subst h;have h0:=v2i ‹waitingAt _ _ _=some _›;exact sw h0.symm)
  |(simp only[Stepped.next.injEq]at h;subst h;rename Sem.run _ _ _=Result.ok _ _=>z0;have a0:=of_run z0;clear z0;simp only[rD,Machine.advanceTo]at a0 |-;omega)
  |(simp only[Stepped.next.injEq]at h;subst h;rename Sem.run _ _ _=Result.ok _ _=>z0;have a0:=of_run z0;clear z0;simp only[rD]at a0;omega)
  |(simp only[Stepped.next.injEq]at h;subst h;rename Sem.run _ _ _=Result.ok _ _=>z0;have a0:=of_run z0;clear z0;rename Sem.run _ _ _=Result.ok _ _=>z1;have a1:=of_run z1;clear z1;simp only[rD,Machine.advanceTo]at a0 a1 |-;omega)
  |(simp only[Stepped.next.injEq]at h;subst h;rename Sem.run _ _ _=Result.ok _ _=>z0;have a0:=of_run z0;clear z0;rename Sem.run _ _ _=Result.ok _ _=>z1;have a1:=of_run z1;clear z1;simp only[rD]at a0 a1;omega)
  |(simp only[Stepped.next.injEq]at h;subst h;rename Sem.run _ _ _=Result.ok _ _=>z0;have a0:=of_run z0;clear z0;rename Sem.run _ _ _=Result.ok _ _=>z1;have a1:=of_run z1;clear z1;rename Sem.run _ _ _=Result.ok _ _=>z2;have a2:=of_run z2;clear z2;simp only[rD,Machine.advanceTo]at a0 a1 a2 |-;omega)
  |(simp only[Stepped.next.injEq]at h;subst h;rename Sem.run _ _ _=Result.ok _ _=>z0;have a0:=of_run z0;clear z0;rename Sem.run _ _ _=Result.ok _ _=>z1;have a1:=of_run z1;clear z1;rename Sem.run _ _ _=Result.ok _ _=>z2;have a2:=of_run z2;clear z2;simp only[rD]at a0 a1 a2;omega)
  |(simp only[Stepped.next.injEq]at h;subst h;rename Sem.run _ _ _=Result.ok _ _=>z0;have a0:=of_run z0;clear z0;rename Sem.run _ _ _=Result.ok _ _=>z1;have a1:=of_run z1;clear z1;rename Sem.run _ _ _=Result.ok _ _=>z2;have a2:=of_run z2;clear z2;rename Sem.run _ _ _=Result.ok _ _=>z3;have a3:=of_run z3;clear z3;simp only[rD,Machine.advanceTo]at a0 a1 a2 a3 |-;omega)
  |(simp only[Stepped.next.injEq]at h;subst h;rename Sem.run _ _ _=Result.ok _ _=>z0;have a0:=of_run z0;clear z0;rename Sem.run _ _ _=Result.ok _ _=>z1;have a1:=of_run z1;clear z1;rename Sem.run _ _ _=Result.ok _ _=>z2;have a2:=of_run z2;clear z2;rename Sem.run _ _ _=Result.ok _ _=>z3;have a3:=of_run z3;clear z3;simp only[rD]at a0 a1 a2 a3;omega)
  |(simp only[Stepped.next.injEq]at h;subst h;rename Sem.run _ _ _=Result.halt _ _=>z0;have a0:=of_run z0;clear z0;rename Sem.run _ _ _=Result.ok _ _=>z1;have a1:=of_run z1;clear z1;simp only[rD,Machine.advanceTo]at a0 a1 |-;omega)
  |(simp only[Stepped.next.injEq]at h;subst h;rename Sem.run _ _ _=Result.halt _ _=>z0;have a0:=of_run z0;clear z0;rename Sem.run _ _ _=Result.ok _ _=>z1;have a1:=of_run z1;clear z1;simp only[rD]at a0 a1;omega)
  |split at h
def T6(p:Program)(m m':Machine)(k:Nat)(h:serve p m k= .next m'):m.world.drawn<=m'.world.drawn:=by
 unfold serve at h;simp only[]at h
 repeat' first
  |(simp at h;done)
  |(simp only[Stepped.next.injEq]at h;subst h;exact zS _)
  |split at h
def z0n(p:Program)(gs:Array Goroutine)(rest:Rest)(w:World)(m':Machine)(h:Go.look p gs rest w= .next m'):w.drawn<=m'.world.drawn:=by
 unfold Go.look at h;simp only[]at h
 repeat' first
  |(simp at h;done)
  |(simp only[Stepped.next.injEq]at h;subst h;have h0:=of_run ‹Sem.run _ _ _=Result.ok _ _›;exact h0)
  |split at h
def q2q{fr:Frame}{m:String}{w w':World}{g:Goroutine}{es:Array Event}(h:endThrow fr m w= .go g w' es):w'=w:=by unfold endThrow dieOf at h;simp only[GStep.go.injEq]at h;exact h.2.1.symm
def u1f(m:Machine)(k:Nat)(t:Timer)(a b:Nat):(retime m k t a b).2.world.drawn=m.world.drawn:=by
 unfold retime drain;simp only[]
 repeat' first
  |rfl
  |split
def w15{m m':Machine}{v:Addr}(h:timerOp.opened m v=some m'):m'.world.drawn=m.world.drawn:=by
 unfold timerOp.opened at h
 repeat' first
  |(simp at h;done)
  |(simp only[Option.some.injEq]at h;subst h;rfl)
  |split at h
def x0z{m m' m1:Machine}{x:Addr}{v:Value}{a:Timer->Nat}{b:Timer->Nat}(h:timerOp.named m x (λk t=>retime m1 k t (a t) (b t))= .ok (v,m')):m'.world.drawn=m1.world.drawn:=by
 unfold timerOp.named at h;split at h
 ·simp only[Except.ok.injEq]at h;have:=congrArg Prod.snd h;simp only at this;rw[<-this];exact u1f _ _ _ _ _
 cases h
def c1w(m m':Machine)(op:TimerOp)(v:Value)(h:timerOp m op= .ok (v,m')):m'.world.drawn=m.world.drawn:=by
 unfold timerOp at h
 repeat' first
  |(simp at h;done)
  |(simp only[Except.ok.injEq,Prod.mk.injEq]at h;obtain⟨_,rfl⟩:=h;rfl)
  |exact x0z (a:=λ_=>0) (b:=λt=>t.period) h
  |(have h0:=w15 ‹timerOp.opened _ _=some _›;rw[<-h0];exact x0z (a:=λ_=>_) (b:=λ_=>_) h)
  |split at h
def k25(p:Program)(m m':Machine)(i:Nat)(b:Bool)(h:(runT p m i b).1= .next m'):m.world.drawn<=m'.world.drawn:=by
 simp only[runT]at h;revert h;generalize m.gs.swapAt! i _=gg;have hs:=y2g p (i==0) gg.1 m.world b;revert hs;generalize stepG p (i==0) gg.1 m.world b=s;intro hs h;cases s<;>simp only[]at h;all_goals first
  |(simp at h;done)
  |exact yP hs (u25 _ _ _ _ _ _ _ _ _ _ h)
  |exact yP hs (z0n _ _ _ _ _ h)
  |(simp only[Stepped.next.injEq]at h;subst h;exact hs)
  |(repeat' first
    |(simp at h;done)
    |(simp only[Stepped.next.injEq]at h;subst h;exact hs)
    |(simp only[Stepped.next.injEq]at h;subst h;have h0:=q2q ‹endThrow _ _ _=_›;subst h0;exact hs)
    |(simp only[Stepped.next.injEq]at h;subst h;have:=c1w _ _ _ _ (by assumption);exact yP hs (sw this.symm))
    |split at h)
def Na(p:Program)(m m':Machine)(ops:Array MemOp)(h:askOn p m= .machine (.next m') ops):m.world.drawn<=m'.world.drawn:=by
 unfold askOn at h;simp only[]at h
 repeat' first
  |(simp at h;done)
  |(simp only[Move.machine.injEq]at h;have h9:=T6 _ _ _ _ h.1;dsimp only at h9;rename Sem.run _ _ _=Result.ok _ _=>z0;have a0:=of_run z0;clear z0;simp only[rD,Machine.advanceTo]at a0 |-;omega)
  |(simp only[Move.machine.injEq]at h;have h9:=T6 _ _ _ _ h.1;dsimp only at h9;rename Sem.run _ _ _=Result.ok _ _=>z0;have a0:=of_run z0;clear z0;simp only[rD]at a0;omega)
  |(simp only[Move.machine.injEq]at h;have h9:=T6 _ _ _ _ h.1;dsimp only at h9;rename Sem.run _ _ _=Result.ok _ _=>z0;have a0:=of_run z0;clear z0;rename Sem.run _ _ _=Result.ok _ _=>z1;have a1:=of_run z1;clear z1;simp only[rD,Machine.advanceTo]at a0 a1 |-;omega)
  |(simp only[Move.machine.injEq]at h;have h9:=T6 _ _ _ _ h.1;dsimp only at h9;rename Sem.run _ _ _=Result.ok _ _=>z0;have a0:=of_run z0;clear z0;rename Sem.run _ _ _=Result.ok _ _=>z1;have a1:=of_run z1;clear z1;simp only[rD]at a0 a1;omega)
  |(simp only[Move.machine.injEq]at h;have h9:=T6 _ _ _ _ h.1;dsimp only at h9;rename Sem.run _ _ _=Result.ok _ _=>z0;have a0:=of_run z0;clear z0;rename Sem.run _ _ _=Result.ok _ _=>z1;have a1:=of_run z1;clear z1;rename Sem.run _ _ _=Result.ok _ _=>z2;have a2:=of_run z2;clear z2;simp only[rD,Machine.advanceTo]at a0 a1 a2 |-;omega)
  |(simp only[Move.machine.injEq]at h;have h9:=T6 _ _ _ _ h.1;dsimp only at h9;rename Sem.run _ _ _=Result.ok _ _=>z0;have a0:=of_run z0;clear z0;rename Sem.run _ _ _=Result.ok _ _=>z1;have a1:=of_run z1;clear z1;rename Sem.run _ _ _=Result.ok _ _=>z2;have a2:=of_run z2;clear z2;simp only[rD]at a0 a1 a2;omega)
  |(simp only[Move.machine.injEq]at h;have h9:=T6 _ _ _ _ h.1;dsimp only at h9;rename Sem.run _ _ _=Result.ok _ _=>z0;have a0:=of_run z0;clear z0;rename Sem.run _ _ _=Result.ok _ _=>z1;have a1:=of_run z1;clear z1;rename Sem.run _ _ _=Result.ok _ _=>z2;have a2:=of_run z2;clear z2;rename Sem.run _ _ _=Result.ok _ _=>z3;have a3:=of_run z3;clear z3;simp only[rD,Machine.advanceTo]at a0 a1 a2 a3 |-;omega)
  |(simp only[Move.machine.injEq]at h;have h9:=T6 _ _ _ _ h.1;dsimp only at h9;rename Sem.run _ _ _=Result.ok _ _=>z0;have a0:=of_run z0;clear z0;rename Sem.run _ _ _=Result.ok _ _=>z1;have a1:=of_run z1;clear z1;rename Sem.run _ _ _=Result.ok _ _=>z2;have a2:=of_run z2;clear z2;rename Sem.run _ _ _=Result.ok _ _=>z3;have a3:=of_run z3;clear z3;simp only[rD]at a0 a1 a2 a3;omega)
  |(simp only[Move.machine.injEq]at h;have h9:=T6 _ _ _ _ h.1;dsimp only at h9;rename Sem.run _ _ _=Result.halt _ _=>z0;have a0:=of_run z0;clear z0;rename Sem.run _ _ _=Result.ok _ _=>z1;have a1:=of_run z1;clear z1;simp only[rD,Machine.advanceTo]at a0 a1 |-;omega)
  |(simp only[Move.machine.injEq]at h;have h9:=T6 _ _ _ _ h.1;dsimp only at h9;rename Sem.run _ _ _=Result.halt _ _=>z0;have a0:=of_run z0;clear z0;rename Sem.run _ _ _=Result.ok _ _=>z1;have a1:=of_run z1;clear z1;simp only[rD]at a0 a1;omega)
  |(simp only[Move.machine.injEq,Stepped.next.injEq]at h;rw[<-h.1];rename Sem.run _ _ _=Result.ok _ _=>z0;have a0:=of_run z0;clear z0;simp only[rD,Machine.advanceTo]at a0 |-;omega)
  |(simp only[Move.machine.injEq,Stepped.next.injEq]at h;rw[<-h.1];rename Sem.run _ _ _=Result.ok _ _=>z0;have a0:=of_run z0;clear z0;simp only[rD]at a0;omega)
  |(simp only[Move.machine.injEq,Stepped.next.injEq]at h;rw[<-h.1];rename Sem.run _ _ _=Result.ok _ _=>z0;have a0:=of_run z0;clear z0;rename Sem.run _ _ _=Result.ok _ _=>z1;have a1:=of_run z1;clear z1;simp only[rD,Machine.advanceTo]at a0 a1 |-;omega)
  |(simp only[Move.machine.injEq,Stepped.next.injEq]at h;rw[<-h.1];rename Sem.run _ _ _=Result.ok _ _=>z0;have a0:=of_run z0;clear z0;rename Sem.run _ _ _=Result.ok _ _=>z1;have a1:=of_run z1;clear z1;simp only[rD]at a0 a1;omega)
  |(simp only[Move.machine.injEq,Stepped.next.injEq]at h;rw[<-h.1];rename Sem.run _ _ _=Result.ok _ _=>z0;have a0:=of_run z0;clear z0;rename Sem.run _ _ _=Result.ok _ _=>z1;have a1:=of_run z1;clear z1;rename Sem.run _ _ _=Result.ok _ _=>z2;have a2:=of_run z2;clear z2;simp only[rD,Machine.advanceTo]at a0 a1 a2 |-;omega)
  |(simp only[Move.machine.injEq,Stepped.next.injEq]at h;rw[<-h.1];rename Sem.run _ _ _=Result.ok _ _=>z0;have a0:=of_run z0;clear z0;rename Sem.run _ _ _=Result.ok _ _=>z1;have a1:=of_run z1;clear z1;rename Sem.run _ _ _=Result.ok _ _=>z2;have a2:=of_run z2;clear z2;simp only[rD]at a0 a1 a2;omega)
  |(simp only[Move.machine.injEq,Stepped.next.injEq]at h;rw[<-h.1];rename Sem.run _ _ _=Result.ok _ _=>z0;have a0:=of_run z0;clear z0;rename Sem.run _ _ _=Result.ok _ _=>z1;have a1:=of_run z1;clear z1;rename Sem.run _ _ _=Result.ok _ _=>z2;have a2:=of_run z2;clear z2;rename Sem.run _ _ _=Result.ok _ _=>z3;have a3:=of_run z3;clear z3;simp only[rD,Machine.advanceTo]at a0 a1 a2 a3 |-;omega)
  |(simp only[Move.machine.injEq,Stepped.next.injEq]at h;rw[<-h.1];rename Sem.run _ _ _=Result.ok _ _=>z0;have a0:=of_run z0;clear z0;rename Sem.run _ _ _=Result.ok _ _=>z1;have a1:=of_run z1;clear z1;rename Sem.run _ _ _=Result.ok _ _=>z2;have a2:=of_run z2;clear z2;rename Sem.run _ _ _=Result.ok _ _=>z3;have a3:=of_run z3;clear z3;simp only[rD]at a0 a1 a2 a3;omega)
  |(simp only[Move.machine.injEq,Stepped.next.injEq]at h;rw[<-h.1];rename Sem.run _ _ _=Result.halt _ _=>z0;have a0:=of_run z0;clear z0;rename Sem.run _ _ _=Result.ok _ _=>z1;have a1:=of_run z1;clear z1;simp only[rD,Machine.advanceTo]at a0 a1 |-;omega)
  |(simp only[Move.machine.injEq,Stepped.next.injEq]at h;rw[<-h.1];rename Sem.run _ _ _=Result.halt _ _=>z0;have a0:=of_run z0;clear z0;rename Sem.run _ _ _=Result.ok _ _=>z1;have a1:=of_run z1;clear z1;simp only[rD]at a0 a1;omega)
  |split at h
def Vx(p:Program)(m m':Machine)(i:Nat)(h:askOn p m= .goroutine m' i):m.world.drawn<=m'.world.drawn:=by
 unfold askOn at h;simp only[]at h
 repeat' first
  |(simp at h;done)
  |(simp only[Move.goroutine.injEq]at h;rw[<-h.1];rename Sem.run _ _ _=Result.ok _ _=>z0;have a0:=of_run z0;clear z0;simp only[rD,Machine.advanceTo]at a0 |-;omega)
  |(simp only[Move.goroutine.injEq]at h;rw[<-h.1];rename Sem.run _ _ _=Result.ok _ _=>z0;have a0:=of_run z0;clear z0;simp only[rD]at a0;omega)
  |(simp only[Move.goroutine.injEq]at h;rw[<-h.1];rename Sem.run _ _ _=Result.ok _ _=>z0;have a0:=of_run z0;clear z0;rename Sem.run _ _ _=Result.ok _ _=>z1;have a1:=of_run z1;clear z1;simp only[rD,Machine.advanceTo]at a0 a1 |-;omega)
  |(simp only[Move.goroutine.injEq]at h;rw[<-h.1];rename Sem.run _ _ _=Result.ok _ _=>z0;have a0:=of_run z0;clear z0;rename Sem.run _ _ _=Result.ok _ _=>z1;have a1:=of_run z1;clear z1;simp only[rD]at a0 a1;omega)
  |(simp only[Move.goroutine.injEq]at h;rw[<-h.1];rename Sem.run _ _ _=Result.ok _ _=>z0;have a0:=of_run z0;clear z0;rename Sem.run _ _ _=Result.ok _ _=>z1;have a1:=of_run z1;clear z1;rename Sem.run _ _ _=Result.ok _ _=>z2;have a2:=of_run z2;clear z2;simp only[rD,Machine.advanceTo]at a0 a1 a2 |-;omega)
  |(simp only[Move.goroutine.injEq]at h;rw[<-h.1];rename Sem.run _ _ _=Result.ok _ _=>z0;have a0:=of_run z0;clear z0;rename Sem.run _ _ _=Result.ok _ _=>z1;have a1:=of_run z1;clear z1;rename Sem.run _ _ _=Result.ok _ _=>z2;have a2:=of_run z2;clear z2;simp only[rD]at a0 a1 a2;omega)
  |(simp only[Move.goroutine.injEq]at h;rw[<-h.1];rename Sem.run _ _ _=Result.ok _ _=>z0;have a0:=of_run z0;clear z0;rename Sem.run _ _ _=Result.ok _ _=>z1;have a1:=of_run z1;clear z1;rename Sem.run _ _ _=Result.ok _ _=>z2;have a2:=of_run z2;clear z2;rename Sem.run _ _ _=Result.ok _ _=>z3;have a3:=of_run z3;clear z3;simp only[rD,Machine.advanceTo]at a0 a1 a2 a3 |-;omega)
  |(simp only[Move.goroutine.injEq]at h;rw[<-h.1];rename Sem.run _ _ _=Result.ok _ _=>z0;have a0:=of_run z0;clear z0;rename Sem.run _ _ _=Result.ok _ _=>z1;have a1:=of_run z1;clear z1;rename Sem.run _ _ _=Result.ok _ _=>z2;have a2:=of_run z2;clear z2;rename Sem.run _ _ _=Result.ok _ _=>z3;have a3:=of_run z3;clear z3;simp only[rD]at a0 a1 a2 a3;omega)
  |(simp only[Move.goroutine.injEq]at h;rw[<-h.1];rename Sem.run _ _ _=Result.halt _ _=>z0;have a0:=of_run z0;clear z0;rename Sem.run _ _ _=Result.ok _ _=>z1;have a1:=of_run z1;clear z1;simp only[rD,Machine.advanceTo]at a0 a1 |-;omega)
  |(simp only[Move.goroutine.injEq]at h;rw[<-h.1];rename Sem.run _ _ _=Result.halt _ _=>z0;have a0:=of_run z0;clear z0;rename Sem.run _ _ _=Result.ok _ _=>z1;have a1:=of_run z1;clear z1;simp only[rD]at a0 a1;omega)
  |split at h
def f2o(p:Program)(m m':Machine)(ops:Array MemOp)(h:ask p m= .machine (.next m') ops):m.world.drawn<=m'.world.drawn:=by
 unfold ask at h;split at h
 ·split at h
  ·cases h
  ·rename_i hr;split at h
   ·rename_i hl;exact yP (z14 hr) (yP (z0n _ _ _ _ _ hl) (Na _ _ _ _ h))
   rename_i hl;simp only[Move.machine.injEq]at h;exact absurd h.1 (hl _)
  rename_i hr;exact yP (z14 hr) (Na p { m with world:=_ } _ _ h)
 exact Na _ _ _ _ h
def g2w(p:Program)(m m':Machine)(i:Nat)(h:ask p m= .goroutine m' i):m.world.drawn<=m'.world.drawn:=by
 unfold ask at h;split at h
 ·split at h
  ·cases h
  ·rename_i hr;split at h
   ·rename_i hl;exact yP (z14 hr) (yP (z0n _ _ _ _ _ hl) (Vx _ _ _ _ h))
   cases h
  rename_i hr;exact yP (z14 hr) (Vx p { m with world:=_ } _ _ h)
 exact Vx _ _ _ _ h
def j2u(p:Program)(m m':Machine)(ops:Array MemOp)(h:move p m= .machine (.next m') ops):m.world.drawn<=m'.world.drawn:=by
 unfold move at h
 repeat' first
  |(simp at h;done)
  |exact f2o _ _ _ _ h
  |(have h0:=f2o _ _ _ _ h;exact h0)
  |split at h
def g2s(p:Program)(m m':Machine)(i:Nat)(h:move p m= .goroutine m' i):m.world.drawn<=m'.world.drawn:=by
 unfold move at h
 repeat' first
  |(simp at h;done)
  |(simp only[Move.goroutine.injEq]at h;rw[<-h.1];exact zS _)
  |exact g2w _ _ _ _ h
  |(have h0:=g2w _ _ _ _ h;exact h0)
  |split at h
def k2r(p:Program)(m m':Machine)(h:step p m= .next m'):m.world.drawn<=m'.world.drawn:=by
 unfold Go.step Go.stepT at h;split at h
 ·rename_i hm;exact yP (g2s _ _ _ _ hm) (k25 _ _ _ _ _ h)
 rename_i hm;simp only at h;subst h;exact j2u _ _ _ _ hm
def q1g(p:Program):∀(n:Nat) (m m':Machine),runN p n m= .next m'->m.world.drawn<=m'.world.drawn
 |0,m,m',h=>by unfold runN at h;cases h;exact zS _
 |n+1,m,m',h=>by
  unfold runN at h;split at h
  ·rename_i hs;exact yP (k2r _ _ _ hs) (q1g p n _ _ h)
  rename_i hs;exact absurd h (hs _)
def c1b{P:Program}{f:FuncId}{args:Array Value}{w:World}{R:Ending->World->Prop}(h:Calls P f args w R):
  Calls P f args w λe w'=>R e w'/\∀v,e= .returned v->w.drawn<=w'.drawn:=λcs=>by
 obtain⟨e,w',fr,hR,hc,h1,h2⟩:=h cs;refine⟨e,w',fr,⟨hR,λv hv=>?_⟩,hc,h1,h2⟩;subst hv;obtain⟨n,hn⟩:=hc;exact q1g P n _ _ hn
section
open Go.Sort Go.RowKit
structure RowW (w:World) (I:Nat->Prop) (k:Nat) (xs:List AV) (F:Array Value):Prop where
 size:F.size=xs.length * k
 width:∀x∈xs,x.cells.length=k
 cell:∀(i:Nat) (x:AV),xs[i]?=some x->∀(j:Nat) (y:AV),x.cells[j]?=some y->PVR w I F[i * k+j]! y
def EOK.same{P:Program}[Env P]{w w':World}{I:Nat->Prop}(h:EOK P w I)(hs:∀b,I b->w'.heap[b]? =w.heap[b]?):EOK P w' I:=λg pr hm=>by obtain⟨h1,cs,t,fr,h2,h3⟩:=h g pr hm;exact⟨h1,cs,t,fr,h2,by rw[hs g h1];exact h3⟩
section
variable {W0:World} {I0:Nat->Prop} {w:World} {I:Nat->Prop} {m:Nat->Option Nat} {H:List AObj} {p b:Nat} {e:TypeId} {k:Nat} {xs:List AV}
def q21(z6:WS W0 I0 w I m H)(ho:H[p]?=some (.arr e k xs))(hm:m p=some b):(∃F,RowW w I k xs F/\Holds id w b 0 F)/\b<w.heap.size/\¬I b:=by
 obtain⟨_,hI,hb⟩:=z6.own p _ b ho rfl hm;refine⟨?_,hb,hI⟩;rcases z6.obj p _ ho with⟨e1,_⟩|⟨b',cap,vs,z7,hh,q1,q2,q3,q4,hr⟩
 ·rw[hm]at e1;cases e1
 obtain rfl:b=b':=by rw[hm]at z7;exact Option.some.inj z7
 have hcap:xs.length * k<=vs.size:=by rw[q3];exact yI k q1
 have z1:(vs.extract 0 (xs.length * k)).size=xs.length * k:=by simp;omega
 refine⟨vs.extract 0 (xs.length * k),⟨z1,q4,λi x hx j y hy=>?_⟩,λj hj=>?_⟩
 ·obtain⟨v,hv,hp⟩:=hr i x hx j y hy;have hi:i<xs.length:=(zB.1 hx).1;have hj:j<k:=by have:=q4 x (zJ hx);rw[<-this];exact(zB.1 hy).1
  have z8:i * k+j<xs.length * k:=by have:=yI k (show i+1<=xs.length from hi);rw[yS,sh]at this;omega
  rw[getElem!_pos _ _ (by rw[z1];exact z8)];have:(vs.extract 0 (xs.length * k))[i * k+j]'(by rw[z1];exact z8)=v:=by have h2:=(yT.1 hv).2;simp[h2]
  rw[this];exact hp
 rw[z1]at hj;have za:j<vs.size:=by omega
 have:(vs.extract 0 (xs.length * k))[j]! =vs[j]:=by rw[getElem!_pos _ _ (by rw[z1];exact hj)];simp
 rw[this];simp[World.cell?,World.frozen?,hh,za]
def j13(z8:WS W0 I0 w I m H)(ho:H[p]?=some (.arr e k xs))(hm:m p=some b){F:Array Value}(hF:RowW w I k xs F){z1:List AV}{F':Array Value}(hl:z1.length=xs.length)(z7:RowW w I k z1 F')(n:Nat)(os:Array Obj):
  WS W0 I0 (grow (putRow id (Sort.ahead w n) b 0 F') os) I m (H.set p (.arr e k z1))/\Fut H.length w I m (grow (putRow id (Sort.ahead w n) b 0 F') os) I m:=by
 obtain⟨_,_,hb⟩:=z8.own p _ b ho rfl hm;rcases z8.obj p _ ho with⟨e1,_⟩|⟨b',cap,vs,zb,hh,q1,q2,q3,q4,hr⟩
 ·rw[hm]at e1;cases e1
 obtain rfl:b=b':=by rw[hm]at zb;exact Option.some.inj zb
 have z6:∀c,c<w.heap.size->(grow (putRow id (Sort.ahead w n) b 0 F') os).heap[c]? =if b=c then(w.heap[c]?).map (onCells (putCells id 0 F'))else w.heap[c]? :=by intro c hc;simp only[grow,putRow,mapBlock,Sort.ahead];rw[xB (by simpa using hc),vz]
 have zc:(grow (putRow id (Sort.ahead w n) b 0 F') os).heap[b]?=some (.cells (putCells id 0 F' vs) e (0,0)):=by rw[z6 b hb,if_pos rfl,hh];rfl
 have hg:w.grownBy (grow (putRow id (Sort.ahead w n) b 0 F') os) (some b):=⟨rfl,rfl,rfl,by simp[grow,putRow,mapBlock,Sort.ahead],λc hc zd=>by
  rw[z6 c hc,if_neg (λh=>zd (by rw[h]))]⟩
 refine z8.set (o':= .arr e k z1) ho rfl hm hg (λs hs=>?_) (λm' hf=> .inr ⟨b,cap,putCells id 0 F' vs,rfl,zc,by omega,q2,by simp[putCells,q3],z7.width,λi x hx j y hy=>?_⟩)
 ·simp only[World.shape?,hh]at hs;simp only[World.shape?,zc];simpa[putCells]using hs
 have hi:i<z1.length:=(zB.1 hx).1;have hj:j<k:=by have:=z7.width x (zJ hx);rw[<-this];exact(zB.1 hy).1
 have ze:i * k+j<z1.length * k:=by have:=yI k (show i+1<=z1.length from hi);rw[yS,sh]at this;omega
 have za:i * k+j<vs.size:=by rw[q3];have:=yI k (show z1.length<=cap by omega);omega
 refine⟨F'[i * k+j]!,?_,(z7.cell i x hx j y hy).mono hf.ext⟩;have:=z7.size;simp only[putCells,Array.getElem?_mapIdx,xG za,wC];rw[if_pos (by omega)];rfl
def y0k {P:Program} [Env P] {f:FuncId} {rest:List AV} (hc:T7 P f) {len:Nat} (zb:xs.length=len) (ho:H[p]?=some (.arr e k xs))
  (us:List Value) (hu:∀(w:World) (I:Nat->Prop) (m:Nat->Option Nat) (vs:List Value),vs.length=rest.length->(∀(i:Nat) (v:Value) (x:AV),vs[i]?=some v->rest[i]?=some x->VR w I m H.length v x)->vs=us)
  (Rx:List AV->Prop)
  (h:∀(w:World) (I:Nat->Prop) (b cap:Nat) (F:Array Value),EOK P w I->(∀c,I c->c<w.heap.size)->¬I b->RowW w I k xs F->Holds id w b 0 F->b<w.heap.size->len<=cap->Calls P f (#[.slice (some ⟨b,0,none⟩) len cap]++us.toArray) w λen w'=>en= .returned (.tuple #[])/\∃(z1:List AV) (F':Array Value) (n:Nat) (os:Array Obj),Rx z1/\z1.length=xs.length/\RowW w I k z1 F'/\w'=grow (putRow id (Sort.ahead w n) b 0 F') os)
  (h0:xs=[]->Rx []/\∀(w:World),Calls P f (#[.slice none 0 0]++us.toArray) w λen w'=>en= .returned (.tuple #[])/\w'=w):
  FC P f (.sl p k 0 len::rest) H (λr H'=>r= .tup []/\∃z1,Rx z1/\H'=H.set p (.arr e k z1)):=by
 refine⟨hc,λW0 I0 w I m vals hE z6 z8 hv=>?_⟩;rcases vals with⟨vals⟩
 cases vals with
 |nil=>simp at z8
 |cons v vs=>
  have zc:vs=us:=hu w I m vs (by simpa using z8) λi v x a b=>hv (i+1) v x (by simpa using a) (by simpa using b);subst zc;have zd:=hv 0 v _ rfl rfl;have tupR:∀(w:World) (I:Nat->Prop) (m:Nat->Option Nat) (n:Nat),VR w I m n (.tuple #[]) (.tup []):=λw I m n=> .tup _ _ rfl (λi v x a=>by simp at a);rcases zd.sl_inv with⟨b,cap,t,hb,hn,zg,hle,hmax,z7⟩|⟨hb,hn,_,ze,z7⟩|⟨_,_,hlo,_,_⟩
  ·subst z7;obtain⟨⟨F,g0,g1⟩,g2,g3⟩:=q21 z6 ho hb;have:=h w I b cap F (hE.go z6.below z6.i0) (λc hc=>(z6.iw c hc).1) g3 g0 g1 g2 hle;simp only[uU];refine Calls.mono (by rw[Hz]at this;exact this) ?_;rintro en w' ⟨rfl,z1,F',n,os,hx,hl,zf,rfl⟩;obtain⟨k1,k2⟩:=j13 z6 ho hb g0 hl zf n os;exact⟨_,_,_,I,m,⟨rfl,z1,hx,rfl⟩,rfl,k1,by simp,k2,tupR _ _ _ _⟩
  ·subst z7;have za:xs=[]:=by cases xs with|nil=>rfl|cons=>simp at zb;omega
   obtain⟨r0,r1⟩:=h0 za;subst ze;refine Calls.mono (by have:=r1 w;rw[Hz]at this;exact this) ?_;rintro en w' ⟨rfl,rfl⟩;refine⟨_,_,H,I,m,⟨rfl,[],r0,?_⟩,rfl,z6,zS _,.refl _ _ _ _,tupR _ _ _ _⟩;rw[<-za];exact(xL λi=>by
    by_cases hi:i=p
    ·subst hi;rw[ho,zK (zB.1 ho).1]
    rw[zE (λh=>hi h.symm)])
  omega
end
def grown_of{w w':World}(hb:Below w.heap.size w w')(hd:w.drawn<=w'.drawn):∃q os,w'=grow (w.drewN q) os:=by
 refine⟨w'.drawn - w.drawn,w'.heap.extract w.heap.size w'.heap.size,?_⟩;have h1:=hb.os;have h2:=hb.tape;have h3:=hb.output;have h4:=hb.size;have h5:=hb.block;have hh:w'.heap=w.heap++w'.heap.extract w.heap.size w'.heap.size:=by
  refine Array.ext_getElem? λi=>?_;by_cases hi:i<w.heap.size
  ·rw[h5 i hi,xB hi]
  rw[u7 (by omega),Array.getElem?_extract];by_cases hi2:i<w'.heap.size
  ·rw[if_pos (by omega),show w.heap.size+(i - w.heap.size)=i by omega]
  rw[if_neg (by omega),Array.getElem?_eq_none (by omega)]
 cases w';simp only at h1 h2 h3 hh hd;subst h1 h2 h3;simp only[grow,World.drewN,World.mk.injEq,true_and,and_true];exact⟨hh,by omega⟩
def PC.laid {P:Program} [Env P] {f:FuncId} {xs:List AV} {z:Int} (h:PC P f xs (λr=>r= .int .i64 z)) {w W:World} {I:Nat->Prop} (hE:EOK P w I) (hI:∀c,I c->c<w.heap.size) (hW:∀c,I c->W.heap[c]? =w.heap[c]?) {vals:Array Value} (hs:vals.size=xs.length)
  (hv:∀(i:Nat) (v:Value) (x:AV),vals[i]?=some v->xs[i]?=some x->PVR w I v x):
  Calls P f vals W λe w'=>e= .returned (.int .i64 z)/\∃q os,w'=grow (W.drewN q) os:=by
 have z1:∀c,I c->c<W.heap.size:=λc hc=>by have h1:=xG (hI c hc);rw[<-hW c hc]at h1;exact(yT.1 h1).1
 have hx:Ext w W I I:=⟨λ_ h=>h,hW⟩
 refine(c1b (h.2 W I vals (hE.same hW) z1 hs λi v x a b=>(hv i v x a b).mono hx)).mono ?_;rintro e w' ⟨⟨v,I',r,rfl,rfl,hb,_,_,hp⟩,hd⟩;cases hp;exact⟨rfl,grown_of hb (hd _ rfl)⟩
end
section
open Go.RowKit Go.Maps
section
variable {P:Program} [Env P] {T:TT} {nt k:Nat} {S:AS} {ops:Array Oper} {o:Oper} {R:AS->Prop}
end
end
section
open Go.RowKit Go.Maps
def Ug.toMv{w:World}{I:Nat->Prop}{m:Nat->Option Nat}{n:Nat}{b? :Option Nat}{kvs:List (AV×AV)}(h:Ug w I m n b? (.mp kvs)):Ug w I m n b? (.mv kvs):=by obtain⟨b,es,ck,e1,hh,hl,hr⟩:=h;exact⟨b,es,ck,e1,hh,hl,λi x p a c=>⟨(hr i x p a c).1,.pure (hr i x p a c).2⟩⟩
def Ug.toMp{w:World}{I:Nat->Prop}{m:Nat->Option Nat}{n:Nat}{b? :Option Nat}{kvs:List (AV×AV)}(hp:kvs.all (λp=>p.2.pure)=true)(h:Ug w I m n b? (.mv kvs)):Ug w I m n b? (.mp kvs):=by obtain⟨b,es,ck,e1,hh,hl,hr⟩:=h;exact⟨b,es,ck,e1,hh,hl,λi x p a c=>⟨(hr i x p a c).1,(hr i x p a c).2.toPure (zX.1 hp p (zJ c))⟩⟩
section
variable {P:Program} [Env P] {T:TT} {nt k:Nat} {S:AS} {ops:Array Oper} {o:Oper} {R:AS->Prop} {Q:Exit->AS->Prop}
def g1g{cd:Code}{sl:List (Nat×AV)}{H:List AObj}(i:Nat){kvs:List (AV×AV)}(hi:H[i]?=some (.mp kvs))(h:AWP P nt k cd Q ⟨sl,H.set i (.mv kvs)⟩):AWP P nt k cd Q ⟨sl,H⟩:=
 λC a w hs=>h C a w (hs.swap hi rfl λ_ _ ho=>ho.toMv)
def j1f{cd:Code}{sl:List (Nat×AV)}{H:List AObj}(i:Nat){kvs:List (AV×AV)}(hi:H[i]?=some (.mv kvs))(hp:kvs.all (λp=>p.2.pure)=true)(h:AWP P nt k cd Q ⟨sl,H.set i (.mp kvs)⟩):AWP P nt k cd Q ⟨sl,H⟩:=
 λC a w hs=>h C a w (hs.swap hi rfl λ_ _ ho=>ho.toMp hp)
def Cy (hT:TOk P T) {wr:Bool} (hw:Qn ops S o=some true) (hd:Wx nt o=true) {t kt et:TypeId} {x ix:Operand} (ho:o.op= .lookup t x ix false) {it ei:TI} (ht:look T t=some it) (hit:it.desc= .map kt et) (he:look T et=some ei)
  (K:Keyed P kt) {id:Nat} (hx:rho S.sl x=some (.mref id)) {kx:AV} (zd:rho S.sl ix=some kx) {kvs:List (AV×AV)} (ze:S.hp[id]?=some (.mv kvs)) (zf:isKey P kt kx) (zg:∀p∈kvs,isKey P kt p.1) {z:AV} (hz:∀(w:World) (I:Nat->Prop),PVR w I ei.zero z)
  (zh:∀(j:Nat) (p:AV×AV),kvs[j]?=some p->p.1=kx->R (S.putD o.dst p.2)) (zi:(∀p∈kvs,p.1≠kx)->R (S.putD o.dst z)):Q7 P nt k wr ops o S R:=λC a w K' Q hst hK=>by
 unfold OpW;rw[if_pos (hst.wanted hw)];obtain⟨I,m,z7,z6,hk,hE⟩:=hst;have z8:=hT.und ht;rw[hit]at z8;obtain⟨b,hb,_,zb⟩:=(Ql z6 hx).mref_inv;obtain⟨u,lk,hu,za⟩:=zf;have zj:kx.pure=true:=AV.kv_pure hu;have z1:=((Ql z6 zd).toPure zj).kv hu;obtain⟨b',es,ck,zc,hh,zk,hr⟩:=z7.obj id _ ze;have hl:=zk.size;obtain rfl:b=b':=by rw[hb]at zc;exact Option.some.inj zc
 have zl:=hT.zero he w;unfold wpA;rcases Od K hl (λi e p a b=>(hr i e p a b).1) hu za zg with⟨h1,h2⟩|⟨j,e,p,h1,h2,h3,h4,h5⟩
 ·have:(execOp a.eval o).run P w= .ok (.value ei.zero) w:=by simp[execOp,ho,zb,z1,Instr.lookup,run_underlying z8,MapKept.run_getObj_map hh,K.check w _ za,h1,zl,Result.andThen]
  rw[this];exact hK _ _ w (zi h2) (St.value z6 hk hE z7 (Fut.refl _ _ _ _) (zS _) (Qi hd) (.pure (hz w I))) (λ_=>Tu.refl w)
 have:(execOp a.eval o).run P w= .ok (.value e.val) w:=by simp[execOp,ho,zb,z1,Instr.lookup,run_underlying z8,MapKept.run_getObj_map hh,K.check w _ za,h1,Result.andThen]
 rw[this];exact hK _ _ w (zh j p h3 h4) (St.value z6 hk hE z7 (Fut.refl _ _ _ _) (zS _) (Qi hd) (hr j e p h2 h3).2) (λ_=>Tu.refl w)
def Hc (hT:TOk P T) (hw:Qn ops S o=some true) (hd:Wx nt o=true) {t kt et:TypeId} {x ix y:Operand} (ho:o.op= .mapUpdate t x ix y) {it:TI} (ht:look T t=some it) (hit:it.desc= .map kt et)
  (K:Keyed P kt) {id:Nat} (hx:rho S.sl x=some (.mref id)) {kx:AV} (zm:rho S.sl ix=some kx) {vy:AV} (hy:rho S.sl y=some vy) {kvs:List (AV×AV)} (zf:S.hp[id]?=some (.mv kvs)) (zn:isKey P kt kx) (zo:∀p∈kvs,isKey P kt p.1)
  (zp:∀(j:Nat) (p:AV×AV),kvs[j]?=some p->p.1=kx->R (({ S with hp:=S.hp.set id (.mv (kvs.set j (kx,vy))) }:AS).putD o.dst (.tup [])))
  (zq:(∀p∈kvs,p.1≠kx)->R (({ S with hp:=S.hp.set id (.mv (kvs++[(kx,vy)])) }:AS).putD o.dst (.tup []))):Q7 P nt k true ops o S R:=λC a w K' Q hst hK=>by
 unfold OpW;rw[if_pos (hst.wanted hw)];obtain⟨I,m,zg,zc,hk,hE⟩:=hst;have zh:=hT.und ht;rw[hit]at zh;obtain⟨b,hb,_,zk⟩:=(Ql zc hx).mref_inv;obtain⟨u,lk,hu,ze⟩:=zn;have zr:kx.pure=true:=AV.kv_pure hu;have zd:=(Ql zc zm).toPure zr;have zb:=zd.kv hu;have z7:PVR w I u kx:=by rw[<-zb];exact zd
 have hyp:=Ql zc hy;obtain⟨b',es,ck,zl,hh,zi,hr⟩:=zg.obj id _ zf;have hl:=zi.size;obtain rfl:b=b':=by rw[hb]at zl;exact Option.some.inj zl
 have z1:w.shape? b=none:=by simp[World.shape?,hh]
 have z8:∀o':Obj,w.grownBy { w with heap:=w.heap.setIfInBounds b o' } (some b):=λo'=>⟨rfl,rfl,rfl,by simp,λi _ hi=>by
  simp only[];rw[wW (λe=>hi (by rw[e]))]⟩
 have za:∀o':Obj,({ w with heap:=w.heap.setIfInBounds b o' }:World).heap[b]?=some o':=λo'=>by have:b<w.heap.size:=(yT.1 hh).1;simp[this]
 unfold wpA;rcases Od K hl (λi e p a b=>(hr i e p a b).1) hu ze zo with⟨h1,h2⟩|⟨j,e,p,h1,h2,h3,h4,h5⟩
 ·have:(execOp a.eval o).run P w= .ok .skip { w with heap:=w.heap.setIfInBounds b (.map (es.push ⟨u,a.eval y,ck⟩) (ck+1)) }:=by simp[execOp,ho,zk,zb,Instr.mapUpdate,run_underlying zh,MapKept.run_getObj_map hh,K.check w _ ze,h1,MapKept.run_setObj_map _ hh,Result.andThen]
  rw[this];obtain⟨g1,g2⟩:=zg.set (o':= .mv (kvs++[(kx,vy)])) zf rfl hb (z8 (.map (es.push ⟨u,a.eval y,ck⟩) (ck+1))) (λs hs=>by rw[z1]at hs;cases hs) (λm' hf=>⟨b,_,_,rfl,za _,zi.push _ _ _,λi e' p' he z6=>by
   rw[vN]at he;split at he
   ·rename_i hi;cases he;rw[zF (by omega)]at z6;have:i - kvs.length=0:=by omega
    rw[this]at z6;cases z6;exact⟨z7.mono hf.ext,hyp.mono hf (zS _)⟩
   rename_i hi;have zt:i<es.size:=(yT.1 he).1;rw[zH (by omega)]at z6;have:=hr i e' p' he z6;exact⟨this.1.mono hf.ext,this.2.mono hf (zS _)⟩⟩)
  exact hK _ _ _ (zq h2) (St.value zc hk hE g1 g2 (by simp) (Qi hd) (Ya _ _ _ _)) (λe=>by cases e)
 have:(execOp a.eval o).run P w= .ok .skip { w with heap:=w.heap.setIfInBounds b (.map (es.modify j λe=>{ e with key:=u,val:=a.eval y }) ck) }:=by have zj:=K.stays w ze;simp[execOp,ho,zk,zb,Instr.mapUpdate,run_underlying zh,MapKept.run_getObj_map hh,K.check w _ ze,h1,h2,h5,zj,MapKept.run_setObj_map _ hh,Result.andThen]
 rw[this];obtain⟨g1,g2⟩:=zg.set (o':= .mv (kvs.set j (kx,vy))) zf rfl hb (z8 (.map (es.modify j λe=>{ e with key:=u,val:=a.eval y }) ck)) (λs hs=>by rw[z1]at hs;cases hs) (λm' hf=>⟨b,_,_,rfl,za _,zi.modify _ _ _ _,λi e' p' he z6=>by
  rw[vz]at he;by_cases hij:j=i
  ·subst hij;rw[if_pos rfl,h2]at he;rw[zK (zB.1 h3).1]at z6;cases he;cases z6;exact⟨z7.mono hf.ext,hyp.mono hf (zS _)⟩
  rw[if_neg hij]at he;rw[zE hij]at z6;have:=hr i e' p' he z6;exact⟨this.1.mono hf.ext,this.2.mono hf (zS _)⟩⟩)
 exact hK _ _ _ (zp j p h3 h4) (St.value zc hk hE g1 g2 (by simp) (Qi hd) (Ya _ _ _ _)) (λe=>by cases e)
end
end
end Go.Abs
namespace Go.Proofs
open Go.Shelf
def Tryz.lays189_ren:Go.Shelf.Ren:=⟨λ|189=>171|125=>199|257=>223|128=>244|129=>245|294=>253|295=>254|296=>255|297=>256|298=>257|299=>258|216=>259|300=>260|301=>261|328=>299|329=>292|330=>293|331=>300|332=>301|215=>200|343=>317|n=>n,λ|28=>47|3=>3|46=>189|0=>0|51=>255|53=>258|4=>4|183=>291|182=>290|131=>112|5=>5|9=>9|218=>327|222=>331|228=>349|229=>350|n=>n,λ|n=>n⟩
def Tryz.lays189:Go.Proofs.Lays.n189 prog Tryz.lays189_ren:={
 mixed:=by kernel_rfl
 f125:=func199.trans (congrArg some (by kernel_rfl))
 f128:=func244.trans (congrArg some (by kernel_rfl))
 f129:=func245.trans (congrArg some (by kernel_rfl))
 f189:=func171.trans (congrArg some (by kernel_rfl))
 f215:=func200.trans (congrArg some (by kernel_rfl))
 f216:=func259.trans (congrArg some (by kernel_rfl))
 f257:=func223.trans (congrArg some (by kernel_rfl))
 f294:=func253.trans (congrArg some (by kernel_rfl))
 f295:=func254.trans (congrArg some (by kernel_rfl))
 f296:=func255.trans (congrArg some (by kernel_rfl))
 f297:=func256.trans (congrArg some (by kernel_rfl))
 f298:=func257.trans (congrArg some (by kernel_rfl))
 f299:=func258.trans (congrArg some (by kernel_rfl))
 f300:=func260.trans (congrArg some (by kernel_rfl))
 f301:=func261.trans (congrArg some (by kernel_rfl))
 f328:=func299.trans (congrArg some (by kernel_rfl))
 f329:=func292.trans (congrArg some (by kernel_rfl))
 f330:=func293.trans (congrArg some (by kernel_rfl))
 f331:=func300.trans (congrArg some (by kernel_rfl))
 f332:=func301.trans (congrArg some (by kernel_rfl))
 f343:=func317.trans (congrArg some (by kernel_rfl))
 t0:=underlying0
 a0:=isAgg0
 z0:=sizeOf0
 v0:=zeroValue0
 t3:=underlying3
 a3:=isAgg3
 z3:=sizeOf3
 v3:=zeroValue3
 t4:=underlying4
 a4:=isAgg4
 z4:=sizeOf4
 v4:=zeroValue4
 t5:=underlying5
 a5:=isAgg5
 z5:=sizeOf5
 v5:=zeroValue5
 t9:=underlying9
 a9:=isAgg9
 z9:=sizeOf9
 v9:=zeroValue9
 t28:=underlying47
 a28:=isAgg47
 z28:=sizeOf47
 v28:=zeroValue47
 t46:=underlying189
 a46:=isAgg189
 z46:=sizeOf189
 v46:=zeroValue189
 t51:=underlying255
 a51:=isAgg255
 z51:=sizeOf255
 v51:=zeroValue255
 t53:=underlying258
 a53:=isAgg258
 z53:=sizeOf258
 v53:=zeroValue258
 t131:=underlying112
 a131:=isAgg112
 z131:=sizeOf112
 v131:=zeroValue112
 t182:=underlying290
 a182:=isAgg290
 z182:=sizeOf290
 v182:=zeroValue290
 t183:=underlying291
 a183:=isAgg291
 z183:=sizeOf291
 v183:=zeroValue291
 t218:=underlying327
 a218:=isAgg327
 z218:=sizeOf327
 v218:=zeroValue327
 t222:=underlying331
 a222:=isAgg331
 z222:=sizeOf331
 v222:=zeroValue331
 t228:=underlying349
 a228:=isAgg349
 z228:=sizeOf349
 v228:=zeroValue349
 t229:=underlying350
 a229:=isAgg350
 z229:=sizeOf350
 v229:=zeroValue350 }
open Go.Sort Go.RowKit in
def Tryz.slices_Sort_int(z1 off cap:Nat)(zs:List Int)(w:World)(hH:Holds (Value.int .i64) w z1 off zs.toArray)(hblk:z1<w.heap.size)(z6:zs.length<4611686018427387904):
  Calls prog 171 #[.slice (some ⟨z1,off,none⟩) zs.length cap] w λe w'=>
   e= .returned (.tuple #[])/\∃n os,w'=grow (putRow (Value.int .i64) (Sort.ahead w n) z1 off (zs.mergeSort λx y=>decide (x<=y)).toArray) os:=Any.slices_Sort_int Tryz.lays189 z1 off cap zs w hH hblk z6
open Go.RowKit Go.Sort in
def Tryz.slices_Sort_int_none(p:Option Addr)(cap:Nat)(w:World):
  Calls prog 171 #[.slice p 0 cap] w λe w'=>e= .returned (.tuple #[])/\w'=w:=Any.slices_Sort_int_none Tryz.lays189 p cap w
end Go.Proofs
namespace Go.Abs
open Go Go.Proofs
abbrev D2_:TI:={ desc:= .int .i64,zero:=(.int .i64 0),size:=1,bytes:=8 }
abbrev D3_:TI:={ desc:= .int .i64,zero:=(.int .i64 0),size:=1,bytes:=8 }
abbrev D4_:TI:={ desc:= .bool,zero:=(.bool false),size:=1,bytes:=1 }
abbrev D5_:TI:={ desc:= .int .u8,zero:=(.int .u8 0),size:=1,bytes:=1 }
abbrev D9_:TI:={ desc:= .string,zero:=(.string ⟨#[]⟩),size:=1,bytes:=16 }
abbrev c2i:TI:={ desc:= .slice 4,zero:=(.slice none 0 0),size:=1,bytes:=24 }
abbrev d2s:TI:={ desc:= .slice 73,zero:=(.slice none 0 0),size:=1,bytes:=24 }
abbrev d2z:TI:={ desc:= .struct #[{ name:= "Types",type:=3,offset:=0,embedded:=false,tag:= "",pkgPath:= "",byteOffset:=0 },{ name:= "Finals",type:=22,offset:=1,embedded:=false,tag:= "",pkgPath:= "",byteOffset:=8 },{ name:= "Moves",type:=23,offset:=2,embedded:=false,tag:= "",pkgPath:= "",byteOffset:=32 }],zero:=(.agg #[(.int .i64 0),(.slice none 0 0),(.slice none 0 0)]),size:=3,bytes:=56 }
abbrev c2h:TI:={ desc:= .slice 52,zero:=(.slice none 0 0),size:=1,bytes:=24 }
abbrev c2m:TI:={ desc:= .int .i64,zero:=(.int .i64 0),size:=1,bytes:=8 }
abbrev d2q:TI:={ desc:= .slice 25,zero:=(.slice none 0 0),size:=1,bytes:=24 }
abbrev d2r:TI:={ desc:= .slice 66,zero:=(.slice none 0 0),size:=1,bytes:=24 }
abbrev c2g:TI:={ desc:= .struct #[{ name:= "Verdict",type:=3,offset:=0,embedded:=false,tag:= "",pkgPath:= "",byteOffset:=0 },{ name:= "Pairs",type:=41,offset:=1,embedded:=false,tag:= "",pkgPath:= "",byteOffset:=8 },{ name:= "Word",type:=26,offset:=2,embedded:=false,tag:= "",pkgPath:= "",byteOffset:=32 }],zero:=(.agg #[(.int .i64 0),(.slice none 0 0),(.slice none 0 0)]),size:=3,bytes:=56 }
abbrev c2t:TI:={ desc:= .slice 3,zero:=(.slice none 0 0),size:=1,bytes:=24 }
abbrev d2t:TI:={ desc:= .struct #[{ name:= "Type",type:=3,offset:=0,embedded:=false,tag:= "",pkgPath:= "",byteOffset:=0 },{ name:= "Num",type:=3,offset:=1,embedded:=false,tag:= "",pkgPath:= "",byteOffset:=8 }],zero:=(.agg #[(.int .i64 0),(.int .i64 0)]),size:=2,bytes:=16,eqv:=true }
abbrev c2k:TI:={ desc:= .array 2 3,zero:=(.agg #[(.int .i64 0),(.int .i64 0)]),size:=2,bytes:=16,eqv:=true }
abbrev d2x:TI:={ desc:= .slice 145,zero:=(.slice none 0 0),size:=1,bytes:=24 }
abbrev c2a:TI:={ desc:= .struct #[{ name:= "Sets",type:=68,offset:=0,embedded:=false,tag:= "",pkgPath:= "",byteOffset:=0 }],zero:=(.agg #[(.slice none 0 0)]),size:=1,bytes:=24 }
abbrev c2b:TI:={ desc:= .struct #[{ name:= "From",type:=3,offset:=0,embedded:=false,tag:= "",pkgPath:= "",byteOffset:=0 },{ name:= "To",type:=3,offset:=1,embedded:=false,tag:= "",pkgPath:= "",byteOffset:=8 },{ name:= "On",type:=70,offset:=2,embedded:=false,tag:= "",pkgPath:= "",byteOffset:=16 }],zero:=(.agg #[(.int .i64 0),(.int .i64 0),(.slice none 0 0)]),size:=3,bytes:=40 }
abbrev c2l:TI:={ desc:= .map 3 4,zero:=(.map none),size:=1,bytes:=8 }
abbrev c26:TI:={ desc:= .func #[99] #[] false,zero:= .nilFunc,size:=1,bytes:=8 }
abbrev c2f:TI:={ desc:= .pointer 91,zero:=(.pointer none),size:=1,bytes:=8 }
abbrev c2e:TI:={ desc:= .slice 70,zero:=(.slice none 0 0),size:=1,bytes:=24 }
abbrev d2v:TI:={ desc:= .slice 47,zero:=(.slice none 0 0),size:=1,bytes:=24 }
abbrev c2o:TI:={ desc:= .map 9 3,zero:=(.map none),size:=1,bytes:=8 }
abbrev d2y:TI:={ desc:= .struct #[{ name:= "a",type:=25,offset:=0,embedded:=false,tag:= "",pkgPath:= "tidegate/determinize",byteOffset:=0 },{ name:= "classes",type:=87,offset:=3,embedded:=false,tag:= "",pkgPath:= "tidegate/determinize",byteOffset:=56 },{ name:= "sets",type:=88,offset:=4,embedded:=false,tag:= "",pkgPath:= "tidegate/determinize",byteOffset:=80 },{ name:= "number",type:=89,offset:=5,embedded:=false,tag:= "",pkgPath:= "tidegate/determinize",byteOffset:=104 }],zero:=(.agg #[(.int .i64 0),(.slice none 0 0),(.slice none 0 0),(.slice none 0 0),(.slice none 0 0),(.map none)]),size:=6,bytes:=112 }
abbrev q3a:TI:={ desc:= .func #[3] #[4] false,zero:= .nilFunc,size:=1,bytes:=8 }
abbrev q35:TI:={ desc:= .func #[154] #[] false,zero:= .nilFunc,size:=1,bytes:=8 }
abbrev q32:TI:={ desc:= .func #[73] #[4] false,zero:= .nilFunc,size:=1,bytes:=8 }
abbrev c1z:TI:={ desc:= .slice 23,zero:=(.slice none 0 0),size:=1,bytes:=24 }
abbrev g1k:TI:={ desc:= .struct #[{ name:= "Symbolic",type:=25,offset:=0,embedded:=true,tag:= "",pkgPath:= "",byteOffset:=0 },{ name:= "moves",type:=103,offset:=3,embedded:=false,tag:= "",pkgPath:= "tidegate/minimize",byteOffset:=56 }],zero:=(.agg #[(.int .i64 0),(.slice none 0 0),(.slice none 0 0),(.slice none 0 0)]),size:=4,bytes:=80 }
abbrev c1o:TI:={ desc:= .map 66 3,zero:=(.map none),size:=1,bytes:=8 }
abbrev c1r:TI:={ desc:= .map 3 3,zero:=(.map none),size:=1,bytes:=8 }
abbrev y2l:TI:={ desc:= .func #[4,4] #[4] false,zero:= .nilFunc,size:=1,bytes:=8 }
abbrev x2m:TI:={ desc:= .func #[196] #[] false,zero:= .nilFunc,size:=1,bytes:=8 }
abbrev c1j:TI:={ desc:= .struct #[{ name:= "x",type:=52,offset:=0,embedded:=false,tag:= "",pkgPath:= "tidegate/minimize",byteOffset:=0 },{ name:= "p",type:=3,offset:=2,embedded:=false,tag:= "",pkgPath:= "tidegate/minimize",byteOffset:=16 },{ name:= "q",type:=3,offset:=3,embedded:=false,tag:= "",pkgPath:= "tidegate/minimize",byteOffset:=24 }],zero:=(.agg #[(.int .i64 0),(.int .i64 0),(.int .i64 0),(.int .i64 0)]),size:=4,bytes:=32,eqv:=true }
abbrev q2u:TI:={ desc:= .struct #[{ name:= "Low",type:=3,offset:=0,embedded:=false,tag:= "",pkgPath:= "",byteOffset:=0 },{ name:= "High",type:=3,offset:=1,embedded:=false,tag:= "",pkgPath:= "",byteOffset:=8 }],zero:=(.agg #[(.int .i64 0),(.int .i64 0)]),size:=2,bytes:=16,eqv:=true }
abbrev j17:TI:={ desc:= .slice 144,zero:=(.slice none 0 0),size:=1,bytes:=24 }
abbrev c1p:TI:={ desc:= .func #[3] #[145,29] false,zero:= .nilFunc,size:=1,bytes:=8 }
abbrev u2u:TI:={ desc:= .func #[145] #[4] false,zero:= .nilFunc,size:=1,bytes:=8 }
abbrev k11:TI:={ desc:= .func #[145,145] #[145,29] false,zero:= .nilFunc,size:=1,bytes:=8 }
abbrev u2f:TI:={ desc:= .func #[242] #[] false,zero:= .nilFunc,size:=1,bytes:=8 }
abbrev c14:TI:={ desc:= .map 66 4,zero:=(.map none),size:=1,bytes:=8 }
abbrev k10:TI:={ desc:= .struct #[{ name:= "pair",type:=66,offset:=0,embedded:=false,tag:= "",pkgPath:= "tidegate/equivalence",byteOffset:=0 },{ name:= "from",type:=3,offset:=2,embedded:=false,tag:= "",pkgPath:= "tidegate/equivalence",byteOffset:=16 },{ name:= "on",type:=52,offset:=3,embedded:=false,tag:= "",pkgPath:= "tidegate/equivalence",byteOffset:=24 },{ name:= "first",type:=4,offset:=5,embedded:=false,tag:= "",pkgPath:= "tidegate/equivalence",byteOffset:=40 }],zero:=(.agg #[(.int .i64 0),(.int .i64 0),(.int .i64 0),(.int .i64 0),(.int .i64 0),(.bool false)]),size:=6,bytes:=48,eqv:=true }
abbrev g1e:TI:={ desc:= .slice 176,zero:=(.slice none 0 0),size:=1,bytes:=24 }
abbrev k2d:TI:={ desc:= .func #[244] #[] false,zero:= .nilFunc,size:=1,bytes:=8 }
abbrev g1u:TI:={ desc:= .struct #[{ name:= "on",type:=52,offset:=0,embedded:=false,tag:= "",pkgPath:= "tidegate/equivalence",byteOffset:=0 },{ name:= "to",type:=66,offset:=2,embedded:=false,tag:= "",pkgPath:= "tidegate/equivalence",byteOffset:=16 }],zero:=(.agg #[(.int .i64 0),(.int .i64 0),(.int .i64 0),(.int .i64 0)]),size:=4,bytes:=32,eqv:=true }
abbrev y2r:TI:={ desc:= .int .u64,zero:=(.int .u64 0),size:=1,bytes:=8 }
abbrev c1n:TI:={ desc:= .slice 22,zero:=(.slice none 0 0),size:=1,bytes:=24 }
abbrev q2p:TI:={ desc:= .slice 5,zero:=(.slice none 0 0),size:=1,bytes:=24 }
abbrev d1p:TI:={ desc:= .map 3 87,zero:=(.map none),size:=1,bytes:=8 }
abbrev u13:TI:={ desc:= .slice 184,zero:=(.slice none 0 0),size:=1,bytes:=24 }
abbrev u29:TI:={ desc:= .func #[144,3] #[3] false,zero:= .nilFunc,size:=1,bytes:=8 }
abbrev y23:TI:={ desc:= .func #[3,3] #[4] false,zero:= .nilFunc,size:=1,bytes:=8 }
abbrev q2w:TI:={ desc:= .slice 87,zero:=(.slice none 0 0),size:=1,bytes:=24 }
attribute [simp] D2_ D3_ D4_ D5_ D9_ c2i d2s d2z c2h c2m d2q d2r c2g c2t d2t c2k d2x c2a c2b c2l c26 c2f c2e d2v c2o d2y q3a q35 q32 c1z g1k c1o c1r y2l x2m c1j q2u j17 c1p u2u k11 u2f c14 k10 g1e k2d g1u y2r c1n q2p d1p u13 u29 y23 q2w
def T:TT:=[(2,D2_),(3,D3_),(4,D4_),(5,D5_),(9,D9_),(22,c2i),(23,d2s),(25,d2z),(26,c2h),(29,c2m),(35,d2q),(41,d2r),(43,c2g),(47,c2t),(52,d2t),(66,c2k),(68,d2x),(70,c2a),(73,c2b),(79,c2l),(81,c26),(84,c2f),(87,c2e),(88,d2v),(89,c2o),(91,d2y),(93,q3a),(95,q35),(99,q32),(103,c1z),(105,g1k),(109,c1o),(113,c1r),(122,y2l),(128,x2m),(131,c1j),(144,q2u),(145,j17),(148,c1p),(159,u2u),(169,k11),(172,u2f),(174,c14),(176,k10),(177,g1e),(181,k2d),(184,g1u),(189,y2r),(219,c1n),(230,q2p),(236,d1p),(245,u13),(276,u29),(279,y23),(286,q2w)]
def W8(P:Program)(T:TT)(t:Nat)(i:TI):Prop:=P.underlying t=some i.desc/\(P.info? t).map (λj=>(j.zero,j.size,j.bytes))=some (some i.zero,i.size,i.bytes)/\
 (i.eqv=true->P.stoodInHeld t=false/\P.eqGuardType P.depth t=false)/\(∀fs,i.desc= .struct fs->Og T fs=true)
def w3g:W8 prog T 2 D2_:=
 ⟨by kernel_rfl,by kernel_rfl,λh=>(by simp at h),λfs h=>(by simp at h)⟩
def w3s:W8 prog T 3 D3_:=
 ⟨by kernel_rfl,by kernel_rfl,λh=>(by simp at h),λfs h=>(by simp at h)⟩
def w3r:W8 prog T 4 D4_:=
 ⟨by kernel_rfl,by kernel_rfl,λh=>(by simp at h),λfs h=>(by simp at h)⟩
def w3q:W8 prog T 5 D5_:=
 ⟨by kernel_rfl,by kernel_rfl,λh=>(by simp at h),λfs h=>(by simp at h)⟩
def w3h:W8 prog T 9 D9_:=
 ⟨by kernel_rfl,by kernel_rfl,λh=>(by simp at h),λfs h=>(by simp at h)⟩
def q38:W8 prog T 22 c2i:=
 ⟨by kernel_rfl,by kernel_rfl,λh=>(by simp at h),λfs h=>(by simp at h)⟩
def q3z:W8 prog T 23 d2s:=
 ⟨by kernel_rfl,by kernel_rfl,λh=>(by simp at h),λfs h=>(by simp at h)⟩
def c2u:W8 prog T 25 d2z:=
 ⟨by kernel_rfl,by kernel_rfl,λh=>(by simp at h),λfs h=>(by cases h;kernel_rfl)⟩
def c24:W8 prog T 26 c2h:=
 ⟨by kernel_rfl,by kernel_rfl,λh=>(by simp at h),λfs h=>(by simp at h)⟩
def c22:W8 prog T 29 c2m:=
 ⟨by kernel_rfl,by kernel_rfl,λh=>(by simp at h),λfs h=>(by simp at h)⟩
def q3r:W8 prog T 35 d2q:=
 ⟨by kernel_rfl,by kernel_rfl,λh=>(by simp at h),λfs h=>(by simp at h)⟩
def c25:W8 prog T 41 d2r:=
 ⟨by kernel_rfl,by kernel_rfl,λh=>(by simp at h),λfs h=>(by simp at h)⟩
def q37:W8 prog T 43 c2g:=
 ⟨by kernel_rfl,by kernel_rfl,λh=>(by simp at h),λfs h=>(by cases h;kernel_rfl)⟩
def q3d:W8 prog T 47 c2t:=
 ⟨by kernel_rfl,by kernel_rfl,λh=>(by simp at h),λfs h=>(by simp at h)⟩
def q3m:W8 prog T 52 d2t:=
 ⟨by kernel_rfl,by kernel_rfl,λ_=>⟨by kernel_rfl,by kernel_rfl⟩,λfs h=>(by cases h;kernel_rfl)⟩
def q3v:W8 prog T 66 c2k:=
 ⟨by kernel_rfl,by kernel_rfl,λ_=>⟨by kernel_rfl,by kernel_rfl⟩,λfs h=>(by simp at h)⟩
def c23:W8 prog T 68 d2x:=
 ⟨by kernel_rfl,by kernel_rfl,λh=>(by simp at h),λfs h=>(by simp at h)⟩
def q3o:W8 prog T 70 c2a:=
 ⟨by kernel_rfl,by kernel_rfl,λh=>(by simp at h),λfs h=>(by cases h;kernel_rfl)⟩
def q36:W8 prog T 73 c2b:=
 ⟨by kernel_rfl,by kernel_rfl,λh=>(by simp at h),λfs h=>(by cases h;kernel_rfl)⟩
def c2w:W8 prog T 79 c2l:=
 ⟨by kernel_rfl,by kernel_rfl,λh=>(by simp at h),λfs h=>(by simp at h)⟩
def q3n:W8 prog T 81 c26:=
 ⟨by kernel_rfl,by kernel_rfl,λh=>(by simp at h),λfs h=>(by simp at h)⟩
def q3c:W8 prog T 84 c2f:=
 ⟨by kernel_rfl,by kernel_rfl,λh=>(by simp at h),λfs h=>(by simp at h)⟩
def c2v:W8 prog T 87 c2e:=
 ⟨by kernel_rfl,by kernel_rfl,λh=>(by simp at h),λfs h=>(by simp at h)⟩
def q3f:W8 prog T 88 d2v:=
 ⟨by kernel_rfl,by kernel_rfl,λh=>(by simp at h),λfs h=>(by simp at h)⟩
def q3b:W8 prog T 89 c2o:=
 ⟨by kernel_rfl,by kernel_rfl,λh=>(by simp at h),λfs h=>(by simp at h)⟩
def q33:W8 prog T 91 d2y:=
 ⟨by kernel_rfl,by kernel_rfl,λh=>(by simp at h),λfs h=>(by cases h;kernel_rfl)⟩
def q31:W8 prog T 93 q3a:=
 ⟨by kernel_rfl,by kernel_rfl,λh=>(by simp at h),λfs h=>(by simp at h)⟩
def c28:W8 prog T 95 q35:=
 ⟨by kernel_rfl,by kernel_rfl,λh=>(by simp at h),λfs h=>(by simp at h)⟩
def q3e:W8 prog T 99 q32:=
 ⟨by kernel_rfl,by kernel_rfl,λh=>(by simp at h),λfs h=>(by simp at h)⟩
def g2t:W8 prog T 103 c1z:=
 ⟨by kernel_rfl,by kernel_rfl,λh=>(by simp at h),λfs h=>(by simp at h)⟩
def j28:W8 prog T 105 g1k:=
 ⟨by kernel_rfl,by kernel_rfl,λh=>(by simp at h),λfs h=>(by cases h;kernel_rfl)⟩
def j29:W8 prog T 109 c1o:=
 ⟨by kernel_rfl,by kernel_rfl,λh=>(by simp at h),λfs h=>(by simp at h)⟩
def j2x:W8 prog T 113 c1r:=
 ⟨by kernel_rfl,by kernel_rfl,λh=>(by simp at h),λfs h=>(by simp at h)⟩
def j2d:W8 prog T 122 y2l:=
 ⟨by kernel_rfl,by kernel_rfl,λh=>(by simp at h),λfs h=>(by simp at h)⟩
def g2f:W8 prog T 128 x2m:=
 ⟨by kernel_rfl,by kernel_rfl,λh=>(by simp at h),λfs h=>(by simp at h)⟩
def g29:W8 prog T 131 c1j:=
 ⟨by kernel_rfl,by kernel_rfl,λ_=>⟨by kernel_rfl,by kernel_rfl⟩,λfs h=>(by cases h;kernel_rfl)⟩
def d2o:W8 prog T 144 q2u:=
 ⟨by kernel_rfl,by kernel_rfl,λ_=>⟨by kernel_rfl,by kernel_rfl⟩,λfs h=>(by cases h;kernel_rfl)⟩
def f2k:W8 prog T 145 j17:=
 ⟨by kernel_rfl,by kernel_rfl,λh=>(by simp at h),λfs h=>(by simp at h)⟩
def j2s:W8 prog T 148 c1p:=
 ⟨by kernel_rfl,by kernel_rfl,λh=>(by simp at h),λfs h=>(by simp at h)⟩
def g2l:W8 prog T 159 u2u:=
 ⟨by kernel_rfl,by kernel_rfl,λh=>(by simp at h),λfs h=>(by simp at h)⟩
def j2j:W8 prog T 169 k11:=
 ⟨by kernel_rfl,by kernel_rfl,λh=>(by simp at h),λfs h=>(by simp at h)⟩
def f2f:W8 prog T 172 u2f:=
 ⟨by kernel_rfl,by kernel_rfl,λh=>(by simp at h),λfs h=>(by simp at h)⟩
def d2i:W8 prog T 174 c14:=
 ⟨by kernel_rfl,by kernel_rfl,λh=>(by simp at h),λfs h=>(by simp at h)⟩
def f2q:W8 prog T 176 k10:=
 ⟨by kernel_rfl,by kernel_rfl,λ_=>⟨by kernel_rfl,by kernel_rfl⟩,λfs h=>(by cases h;kernel_rfl)⟩
def g2p:W8 prog T 177 g1e:=
 ⟨by kernel_rfl,by kernel_rfl,λh=>(by simp at h),λfs h=>(by simp at h)⟩
def j2r:W8 prog T 181 k2d:=
 ⟨by kernel_rfl,by kernel_rfl,λh=>(by simp at h),λfs h=>(by simp at h)⟩
def f2h:W8 prog T 184 g1u:=
 ⟨by kernel_rfl,by kernel_rfl,λ_=>⟨by kernel_rfl,by kernel_rfl⟩,λfs h=>(by cases h;kernel_rfl)⟩
def j2i:W8 prog T 189 y2r:=
 ⟨by kernel_rfl,by kernel_rfl,λh=>(by simp at h),λfs h=>(by simp at h)⟩
def d2g:W8 prog T 219 c1n:=
 ⟨by kernel_rfl,by kernel_rfl,λh=>(by simp at h),λfs h=>(by simp at h)⟩
def f2j:W8 prog T 230 q2p:=
 ⟨by kernel_rfl,by kernel_rfl,λh=>(by simp at h),λfs h=>(by simp at h)⟩
def d2p:W8 prog T 236 d1p:=
 ⟨by kernel_rfl,by kernel_rfl,λh=>(by simp at h),λfs h=>(by simp at h)⟩
def d2b:W8 prog T 245 u13:=
 ⟨by kernel_rfl,by kernel_rfl,λh=>(by simp at h),λfs h=>(by simp at h)⟩
def f2g:W8 prog T 276 u29:=
 ⟨by kernel_rfl,by kernel_rfl,λh=>(by simp at h),λfs h=>(by simp at h)⟩
def f2s:W8 prog T 279 y23:=
 ⟨by kernel_rfl,by kernel_rfl,λh=>(by simp at h),λfs h=>(by simp at h)⟩
def f2v:W8 prog T 286 q2w:=
 ⟨by kernel_rfl,by kernel_rfl,λh=>(by simp at h),λfs h=>(by simp at h)⟩
theorem tOk:TOk prog T:=λt i h=>by
 have hm:=Hx h;simp only[T,List.mem_cons,List.not_mem_nil,or_false,Prod.mk.injEq]at hm;rcases hm with⟨rfl,rfl⟩|⟨rfl,rfl⟩|⟨rfl,rfl⟩|⟨rfl,rfl⟩|⟨rfl,rfl⟩|⟨rfl,rfl⟩|⟨rfl,rfl⟩|⟨rfl,rfl⟩|⟨rfl,rfl⟩|⟨rfl,rfl⟩|⟨rfl,rfl⟩|⟨rfl,rfl⟩|⟨rfl,rfl⟩|⟨rfl,rfl⟩|⟨rfl,rfl⟩|⟨rfl,rfl⟩|⟨rfl,rfl⟩|⟨rfl,rfl⟩|⟨rfl,rfl⟩|⟨rfl,rfl⟩|⟨rfl,rfl⟩|⟨rfl,rfl⟩|⟨rfl,rfl⟩|⟨rfl,rfl⟩|⟨rfl,rfl⟩|⟨rfl,rfl⟩|⟨rfl,rfl⟩|⟨rfl,rfl⟩|⟨rfl,rfl⟩|⟨rfl,rfl⟩|⟨rfl,rfl⟩|⟨rfl,rfl⟩|⟨rfl,rfl⟩|⟨rfl,rfl⟩|⟨rfl,rfl⟩|⟨rfl,rfl⟩|⟨rfl,rfl⟩|⟨rfl,rfl⟩|⟨rfl,rfl⟩|⟨rfl,rfl⟩|⟨rfl,rfl⟩|⟨rfl,rfl⟩|⟨rfl,rfl⟩|⟨rfl,rfl⟩|⟨rfl,rfl⟩|⟨rfl,rfl⟩|⟨rfl,rfl⟩|⟨rfl,rfl⟩|⟨rfl,rfl⟩|⟨rfl,rfl⟩|⟨rfl,rfl⟩|⟨rfl,rfl⟩|⟨rfl,rfl⟩|⟨rfl,rfl⟩|⟨rfl,rfl⟩
 ·exact w3g
 ·exact w3s
 ·exact w3r
 ·exact w3q
 ·exact w3h
 ·exact q38
 ·exact q3z
 ·exact c2u
 ·exact c24
 ·exact c22
 ·exact q3r
 ·exact c25
 ·exact q37
 ·exact q3d
 ·exact q3m
 ·exact q3v
 ·exact c23
 ·exact q3o
 ·exact q36
 ·exact c2w
 ·exact q3n
 ·exact q3c
 ·exact c2v
 ·exact q3f
 ·exact q3b
 ·exact q33
 ·exact q31
 ·exact c28
 ·exact q3e
 ·exact g2t
 ·exact j28
 ·exact j29
 ·exact j2x
 ·exact j2d
 ·exact g2f
 ·exact g29
 ·exact d2o
 ·exact f2k
 ·exact j2s
 ·exact g2l
 ·exact j2j
 ·exact f2f
 ·exact d2i
 ·exact f2q
 ·exact g2p
 ·exact j2r
 ·exact f2h
 ·exact j2i
 ·exact d2g
 ·exact f2j
 ·exact d2p
 ·exact d2b
 ·exact f2g
 ·exact f2s
 exact f2v
def T2:look T 2=some D2_:=rfl
def T3:look T 3=some D3_:=rfl
def T4:look T 4=some D4_:=rfl
def T5:look T 5=some D5_:=rfl
def T9:look T 9=some D9_:=rfl
def T22:look T 22=some c2i:=rfl
def T23:look T 23=some d2s:=rfl
def T25:look T 25=some d2z:=rfl
def T26:look T 26=some c2h:=rfl
def T29:look T 29=some c2m:=rfl
def T35:look T 35=some d2q:=rfl
def T41:look T 41=some d2r:=rfl
def T43:look T 43=some c2g:=rfl
def T47:look T 47=some c2t:=rfl
def T52:look T 52=some d2t:=rfl
def T66:look T 66=some c2k:=rfl
def T68:look T 68=some d2x:=rfl
def T70:look T 70=some c2a:=rfl
def T73:look T 73=some c2b:=rfl
def T79:look T 79=some c2l:=rfl
def T84:look T 84=some c2f:=rfl
def T87:look T 87=some c2e:=rfl
def T88:look T 88=some d2v:=rfl
def T89:look T 89=some c2o:=rfl
def T91:look T 91=some d2y:=rfl
def q30:look T 103=some c1z:=rfl
def w3k:look T 105=some g1k:=rfl
def g27:look T 109=some c1o:=rfl
def c2q:look T 113=some c1r:=rfl
def w3n:look T 131=some c1j:=rfl
def L1:look T 144=some q2u:=rfl
def P6:look T 145=some j17:=rfl
def w3p:look T 148=some c1p:=rfl
def w3i:look T 169=some k11:=rfl
def y2u:look T 174=some c14:=rfl
def w3c:look T 176=some k10:=rfl
def w3f:look T 177=some g1e:=rfl
def w3d:look T 184=some g1u:=rfl
def w3t:look T 219=some c1n:=rfl
def c2s:look T 230=some q2p:=rfl
def c2c:look T 236=some d1p:=rfl
def q39:look T 245=some u13:=rfl
def w3m:look T 286=some q2w:=rfl
def mixed:prog.follows .mixedOrders=true:=by kernel_rfl
section
def X5:List Value:=Lib.pow10Tab.map λz=>Value.int .u64 z
noncomputable instance env:Env prog:=⟨[(0,(·=X5))]⟩
section
variable {P:Program} [Env P]
def ctA(P:Program)[Env P](T:TT)(nt k:Nat):Code->(Exit->AS->Prop)->AS->Option Prop
 |.seq x y,Q,S=>ctA P T nt k x (Pf (AWP P nt k y Q) Q) S
 |.block i c,Q,S=>ctA P T nt k c (Xp i Q) S
 |.region _ ⟨l⟩ false,Q,S=>match Us nt l with
  |true=>some (Lx P T nt k l.toArray (Q .normal) l S)
  |false=>none
 |.skip,Q,S=>some (Q .normal S)
 |.exit i,Q,S=>some (Q (.exit i) S)
 |.ret,Q,S=>some (Q .ret S)
 |_,_,_=>none
def x2w{T:TT}{nt k:Nat}(hT:TOk P T){X:Prop}(x:X):∀(c:Code) (Q:Exit->AS->Prop) (S:AS),ctA P T nt k c Q S=some X->AWP P nt k c Q S
 |.seq _ _,_,S,h=>Rn (x2w hT x _ _ S h)
 |.block _ _,_,S,h=>Tn (x2w hT x _ _ S h)
 |.region i ⟨l⟩ false,Q,S,h=>by
  unfold ctA at h;split at h
  ·rename_i hd;cases h;exact R6 hT hd x
  cases h
 |.region _ ⟨_⟩ true,_,_,h=>nomatch h
 |.skip,_,_,h=>by cases h;exact Uv x
 |.exit _,_,_,h=>by cases h;exact x0y x
 |.ret,_,_,h=>by cases h;exact q1w x
 |.cond ..,_,_,h=>nomatch h
 |.loop ..,_,_,h=>nomatch h
 |.rangeFunc ..,_,_,h=>nomatch h
 |.scope ..,_,_,h=>nomatch h
 |.label ..,_,_,h=>nomatch h
 |.goto ..,_,_,h=>nomatch h
end
def cwA(P:Program)[Env P](nt k:Nat):Code->(Exit->AS->Prop)->AS->Prop
 |.seq x y,Q,S=>cwA P nt k x (Pf (AWP P nt k y Q) Q) S
 |.block i c,Q,S=>cwA P nt k c (Xp i Q) S
 |c,Q,S=>AWP P nt k c Q S
def v2g{P:Program}[Env P]{nt k:Nat}:∀(c:Code) (Q:Exit->AS->Prop) (S:AS),cwA P nt k c Q S->AWP P nt k c Q S
 |.seq _ _,_,S,h=>Rn (v2g _ _ S h)
 |.block _ _,_,S,h=>Tn (v2g _ _ S h)
 |.region ..,_,_,h=>h
 |.skip,_,_,h=>h
 |.exit _,_,_,h=>h
 |.ret,_,_,h=>h
 |.cond ..,_,_,h=>h
 |.loop ..,_,_,h=>h
 |.rangeFunc ..,_,_,h=>h
 |.scope ..,_,_,h=>h
 |.label ..,_,_,h=>h
 |.goto ..,_,_,h=>h
 |.refuse _,_,_,h=>h
def q3i:Code->Bool
 |.seq ..=>true
 |.block ..=>true
 |_=>false
def csA(P:Program)[Env P](T:TT)(nt k:Nat)(c:Code)(Q:Exit->AS->Prop)(S:AS):Option Prop:=match ctA P T nt k c Q S with
 |some X=>some X
 |none=>match q3i c with
  |true=>some (cwA P nt k c Q S)
  |false=>none
def M_(p:Prop):Prop:=p
@[simp] theorem M_eq (p:Prop):M_ p=p:=rfl
def s_{nt k:Nat}{c:Code}{Q:Exit->AS->Prop}{S:AS}{X:Prop}(x:M_ X)(h:csA prog T nt k c Q S=some X:=by rfl):AWP prog nt k c Q S:=by
 unfold csA at h;split at h
 ·rename_i Y hY;cases h;exact x2w tOk x c Q S hY
 split at h
 ·cases h;exact v2g c Q S x
 cases h
def v1n{w:World}{I:Nat->Prop}(h:EOK prog w I):Lib.TabIs prog w "internal/strconv.uint64pow10" .u64 Lib.pow10Tab:=by
 obtain⟨_,_,t,fr,rfl,hb⟩:=h 0 (·=X5) (by first|exact zP.2 rfl|exact List.mem_cons_self)
 unfold Lib.TabIs World.var?;rw[show prog.globalNamed "internal/strconv.uint64pow10" =some 0 by kernel_rfl]
 simp only[Option.bind_some,hb];rfl
end
section
attribute [simp] T3 T4 T5 T9 c2s T29 T2
def Jv{α:Type}{c:Bool}{a b:α}(h:c=true):(if c=true then a else b)=a:=by rw[if_pos h]
def Ow{α:Type}{c:Bool}{a b:α}(h:c=false):(if c=true then a else b)=b:=by rw[if_neg (by rw[h];decide)]
@[simp] def encI (n:Int):AV:= .int .i64 n
abbrev AV.i (n:Int):AV:= .int .i64 n
abbrev W (n:Int):Int:=IntKind.i64.wrap n
def wrap_i64(n:Int)(h1: -9223372036854775808<=n)(h2:n<=9223372036854775807):IntKind.i64.wrap n=n:=by rw[IntKind.wrap_i64];omega
def wrap_one:IntKind.i64.wrap 1=1:=wrap_i64 _ (by omega) (by omega)
section
variable {P:Program} [Env P] {nt k:Nat} {S:AS} {ops:Array Oper} {o:Oper} {R:AS->Prop}
def pcL{wr:Bool}{f:FuncId}{xs args:List AV}{v:AV}(hc:PC P f args (λr=>r=v))(hR:R (S.putD o.dst v))(hw:Qn ops S o=some true:=by exact rfl)(h:Un S o.op=some (f,xs):=by exact rfl)(hp:xs.all AV.pure=true:=by simp)(he:xs.map AV.nrm=args:=by exact rfl)(hd:Wx nt o=true:=by exact rfl):Q7 P nt k wr ops o S R:=
 Ve (Rf:=λr=>r=v) hw h hp (by rw[he];exact hc) hd (by intro r hr;subst hr;exact hR)
end
def pcB {f:FuncId} {fn:Func} {c:Code} {rs:List ResultVar} {n:Nat} {args:List AV} {R:AV->Prop} (hf:prog.funcs[f]?=some fn) (z1:fn.results=rs.toArray) (hn:fn.ntmps=n) (h:AWP prog n 0 c (z27 T rs λr H=>∃y,Ti H r=some y/\R y) ⟨Qd 0 args,[]⟩) (hb:fn.body=some c:=by exact rfl) (z6:(fn.name== "runtime.NumGoroutine")=false:=by exact rfl) (hl:Nat.ble args.length n=true:=by exact rfl):PC prog f args R:=by
 subst hn;exact x2o tOk hf hb z1 z6 (tu hl) h
def fcB {f:FuncId} {fn:Func} {c:Code} {rs:List ResultVar} {n:Nat} {args:List AV} {H:List AObj} {R:AV->List AObj->Prop} (hf:prog.funcs[f]?=some fn) (z1:fn.results=rs.toArray) (hn:fn.ntmps=n) (h:AWP prog n H.length c (z27 T rs R) ⟨Qd 0 args,H⟩) (hb:fn.body=some c:=by exact rfl) (z6:(fn.name== "runtime.NumGoroutine")=false:=by exact rfl) (hl:Nat.ble args.length n=true:=by exact rfl):FC prog f args H R:=by
 subst hn;exact y2i tOk hf hb z1 z6 (tu hl) h
section
variable {nt k:Nat} {S:AS} {ops:Array Oper} {o:Oper} {R:AS->Prop}
def apS {s x:Operand} {t e:TypeId} {it ei:TI} (ht:look T t=some it) (he:look T e=some ei) {sv xv:AV}
  (hR:match Ss S e ei.size sv,Kp S.hp xv with
   |some (xs,H1),some ys=>Wo ei xs ys/\R (({ S with hp:=H1++[.arr e ei.size (xs++ys)] }:AS).putD o.dst (.sl S.hp.length ei.size 0 (xs.length+ys.length)))
   |_,_=>False)
  (hw:Qn ops S o=some true:=by exact rfl) (ho:o.op= .call ⟨.builtin .append,#[s,x],#[t,t]⟩:=by exact rfl) (hit:it.desc= .slice e:=by exact rfl) (hz:ei.zero.cells.size=ei.size:=by exact rfl) (z1:0<ei.size:=by decide) (z6:0<ei.bytes:=by decide) (hs:rho S.sl s=some sv:=by exact rfl) (hx:rho S.sl x=some xv:=by exact rfl) (hd:Wx nt o=true:=by exact rfl):Q7 prog nt k true ops o S R:=
 Cm tOk hw ho ht hit he hz z1 z6 hs hx hd hR
end
section
variable {P:Program} [Env P] {nt k:Nat} {Q:Exit->AS->Prop}
def lpW {α:Type} {c:Code} {sl:List (Nat×AV)} (F:α->AS) (Inv:α->Prop) (mu:α->Nat)
  (h:∀x,Inv x->(∀y,Inv y->mu y<mu x->Uh P nt k c Q (F y))->AWP P nt k c (Pf (Uh P nt k c Q) Q) (F x)):∀x,Inv x->Oq sl (F x).sl->AWP P nt k (.loop c) Q ⟨sl,(F x).hp⟩:=
 λx hx hk=>R9 (Qo (R8 F Inv mu h x hx) hk)
end
section
variable {P:Program} [Env P] {nt k:Nat} {Q:Exit->AS->Prop}
def kpA{c:Code}{sl:List (Nat×AV)}{H:List AObj}(sl':List (Nat×AV))(h:AWP P nt k c Q ⟨sl',H⟩)(hk:Oq sl sl':=by simp):AWP P nt k c Q ⟨sl,H⟩:=Ru h hk
def lkA{c:Code}{sl:List (Nat×AV)}{H:List AObj}(sl':List (Nat×AV))(h:Uh P nt k c Q ⟨sl',H⟩)(hk:Oq sl sl':=by simp):Uh P nt k c Q ⟨sl,H⟩:=Qo h hk
def lkB{c:Code}{sl sl':List (Nat×AV)}{H:List AObj}(h:Uh P nt k c Q ⟨sl',H⟩)(hk:Oq sl sl':=by simp):Uh P nt k c Q ⟨sl,H⟩:=Qo h hk
def lpV {α:Type} {c:Code} {sl:List (Nat×AV)} (F:α->AS) (Inv:α->Prop) (mu:α->Nat)
  (h:∀x,Inv x->(∀y,Inv y->mu y<mu x->Uh P nt k c Q (F y))->AWP P nt k c (Pf (Uh P nt k c Q) Q) (F x)) (x:α) (hx:Inv x) (hk:Oq sl (F x).sl:=by simp):AWP P nt k (.loop c) Q ⟨sl,(F x).hp⟩:=
 R9 (Qo (R8 F Inv mu h x hx) hk)
end
def Plan.pv:Nat->Nat->Plan->Plan
 |_,0,p=>p
 |i,n+1,p=> .val i (Plan.pv (i+1) n p)
attribute [simp] Plan.pv
def drT {nt k:Nat} {Q:Exit->AS->Prop} {S:AS} {id:Nat} {l:List Oper} (Wr:List Nat) (p:Plan) (h:B2 prog T nt k l.toArray Wr.contains (Q .normal) p S) (hd:Us nt l=true:=by exact rfl)
  (hp:(Region.noSelect l.toArray && p.size==l.length && Lr l.toArray (Im l []) Wr p (v_ l.length false))=true:=by kernel_rfl):AWP prog nt k (.region id l.toArray true) Q S:=z1x tOk mixed Wr p hd hp h
def wz(n:Nat)(h:n<9223372036854775807):IntKind.i64.wrap ((n:Int)+1)=n+1:=wrap_i64 _ (by omega) (by omega)
end
section
attribute [simp] L1 P6
structure Iv where
 lo:Int
 hi:Int
deriving Inhabited,DecidableEq
@[simp] def encIv (v:Iv):AV:= .agg [.int .i64 v.lo,.int .i64 v.hi]
abbrev LIv (l:List Iv):AV:= .list (l.map encIv)
def inB(n:Int):Bool:=decide (-1099511627776<=n) && decide (n<=1099511627776)
def Hi(x:Iv):Int:=if(!inB x.lo || !inB x.hi)=true then 2 else if decide (x.hi<x.lo)=true then 3 else 0
def j2g(a b:Int):(decide (a< -1099511627776) || decide (1099511627776<a) || decide (b< -1099511627776) || decide (1099511627776<b))=(!inB a || !inB b):=by unfold inB;rw[Bool.eq_iff_iff];simp;omega
def E4(a:Int):inB a=true↔ -1099511627776<=a/\a<=1099511627776:=by simp[inB]
def v1v(x:Iv):PC prog 184 [encIv x] (λr=>r= .i (Hi x)):=by
 refine pcB func184 results184 ntmps184 ?_;simp only[Qd];simp only[encIv];repeat(refine s_ ?_;simp)
 rw[j2g];refine Qa rfl (λh=>?_) (λh=>?_)
 ·repeat(refine s_ ?_;simp)
  rw[Hi,Jv h]
 repeat(refine s_ ?_;simp)
 refine Qa rfl (λh1=>?_) (λh1=>?_)
 ·repeat(refine s_ ?_;simp)
  rw[Hi,Ow h,Jv h1]
 repeat(refine s_ ?_;simp)
 rw[Hi,Ow h,Ow h1]
def c0y(n:Int):PC prog 298 [.i n] (λr=>r= .bool (inB n)):=by
 refine pcB func298 results298 ntmps298 ?_;simp only[Qd];repeat(refine s_ ?_;simp)
 rfl
attribute [local irreducible] inB
def u2r(x:Iv):PC prog 251 [encIv x] (λr=>r= .i (Hi x)):=by
 refine pcB func251 results251 ntmps251 ?_;simp only[Qd];simp only[encIv];repeat(refine s_ ?_;simp)
 cases hp:inB x.lo with
 |false=>
  refine pcL (c0y x.lo) ?_;simp[hp];refine Wq rfl rfl ?_;simp;refine Qk rfl ?_;repeat(refine s_ ?_;simp)
  rw[Hi,Jv (by rw[hp];rfl)]
 |true=>
  refine pcL (c0y x.lo) ?_;simp[hp];refine pcL (c0y x.hi) ?_;simp;have he:(!inB x.lo || !inB x.hi)= !inB x.hi:=by rw[hp];rfl
  refine Qa rfl (λh=>?_) (λh=>?_)
  ·repeat(refine s_ ?_;simp)
   rw[Hi,he,Jv h]
  repeat(refine s_ ?_;simp)
  refine Qa rfl (λh1=>?_) (λh1=>?_)
  ·repeat(refine s_ ?_;simp)
   rw[Hi,he,Ow h,Jv h1]
  repeat(refine s_ ?_;simp)
  rw[Hi,he,Ow h,Ow h1]
def d0q(l:List Iv)(j:Nat)(x:Iv):Bool:=decide (0<j) && (match l[j - 1]? with|some y=>decide (x.lo<W (y.hi+2))|none=>false)
def Po(l:List Iv):Nat->List Iv->Int
 |_,[]=>0
 |j,x::r=>if(Hi x != 0)=true then Hi x else if d0q l j x=true then 14 else Po l (j+1) r
def ckR(l:List Iv):Int:=if decide ((256:Int)<l.length)=true then 5 else Po l 0 l
attribute [local irreducible] Hi
def Eh{α:Type}{l:List α}{j:Nat}(h:j<l.length):l.drop j=l[j]::l.drop (j+1):=List.drop_eq_getElem_cons h
def Jb(l:List Iv):PC prog 121 [LIv l] (λr=>r= .i (ckR l)):=by
 refine pcB func121 results121 ntmps121 ?_;simp only[Qd];refine Y5 0 rfl (λhlen=>?_);rw[yE]at hlen;repeat(refine s_ ?_;simp)
 refine Qa rfl (λh=>?_) (λh=>?_)
 ·repeat(refine s_ ?_;simp)
  rw[ckR,Jv h]
 repeat(refine s_ ?_;simp)
 refine Qr l.length (λj=>Po l 0 l=Po l j (l.drop j)) (λj=>[(0,LIv l),(9,LIv l),(10,.i l.length),(11,.i j)]) (λ_=>[]) rfl (by simp) (by simp) (by simp) (by simp) (by simp) ?_;intro j hj hI ih;repeat(refine s_ ?_;simp)
 refine Qa rfl (λza=>?_) (λzb=>?_)
 ·have z1:j<l.length:=by simpa using za
  have hw:=wz j (by omega);rw[Eh z1,Po]at hI;repeat(refine s_ ?_;simp[z1])
  refine pcL (v1v l[j]) ?_;simp;repeat(refine s_ ?_;simp)
  refine Qa rfl (λh2=>?_) (λh2=>?_)
  ·repeat(refine s_ ?_;simp)
   rw[ckR,Ow h,hI,Jv h2]
  rw[Ow h2]at hI;repeat(refine s_ ?_;simp)
  rcases j with _|j
  ·refine drT [] (.pv 0 14 (.done)) ?_;simp[z1];refine Qk rfl ?_;repeat(refine s_ ?_;simp[hw])
   refine Qt _ (ih z1 ?_) rfl (by simp) ?_ (by simp) (by simp)
   ·rw[hI,Ow (by simp[d0q])]
   simp[wrap_one]
  have z7:j<l.length:=by omega
  have z8:d0q l (j+1) l[j+1]=decide (l[j+1].lo<W (l[j].hi+2)):=by simp[d0q,z7]
  have zc:IntKind.i64.wrap ((j:Int)+1 - 1)=j:=by rw[wrap_i64 _ (by omega) (by omega)];omega
  have zd:IntKind.i64.wrap (j:Int)=j:=wrap_i64 _ (by omega) (by omega);have hp:(0:Int)<(j:Int)+1:=by omega
  have ze:IntKind.i64.wrap ((j:Int)+1+1)=j+1+1:=wrap_i64 _ (by omega) (by omega);have zf:((j:Int)+1).toNat=j+1:=by omega
  have zg:(0:Int)<=(j:Int)+1:=by omega
  have zh:(j:Int)+1<l.length:=by omega
  have zi:(j:Int)<l.length:=by omega
  refine drT [] (.pv 0 14 (.done)) ?_;simp[z1,z7,zc,zd,hp,zf,zg,zh,zi];refine Qa rfl (λh3=>?_) (λh3=>?_)
  ·repeat(refine s_ ?_;simp)
   rw[ckR,Ow h,hI,Jv (by rw[z8];exact h3)]
  rw[Ow (by rw[z8];exact h3)]at hI;repeat(refine s_ ?_;simp[ze])
  refine Qt _ (ih z1 hI) rfl (by simp) ?_ (by simp) (by simp);simp
 have z6:j=l.length:=by simp at zb;omega
 subst z6;repeat(refine s_ ?_;simp)
 rw[ckR,Ow h,hI,xX];rfl
def v1e(l:List Iv):PC prog 217 [LIv l] (λr=>r= .i (ckR l)):=by
 refine pcB func217 results217 ntmps217 ?_;simp only[Qd];refine Y5 0 rfl (λhlen=>?_);rw[yE]at hlen;repeat(refine s_ ?_;simp)
 refine Qa rfl (λh=>?_) (λh=>?_)
 ·repeat(refine s_ ?_;simp)
  rw[ckR,Jv h]
 repeat(refine s_ ?_;simp)
 refine Qr l.length (λj=>Po l 0 l=Po l j (l.drop j)) (λj=>[(0,LIv l),(3,.i j)]) (λ_=>[]) rfl (by simp) (by simp) (by simp) (by simp) (by simp) ?_;intro j hj hI ih;repeat(refine s_ ?_;simp)
 refine Qa rfl (λza=>?_) (λzb=>?_)
 ·have z1:j<l.length:=by simpa using za
  have hw:=wz j (by omega);rw[Eh z1,Po]at hI;repeat(refine s_ ?_;simp[z1])
  refine pcL (u2r l[j]) ?_;simp;repeat(refine s_ ?_;simp)
  refine Qa rfl (λh2=>?_) (λh2=>?_)
  ·repeat(refine s_ ?_;simp)
   rw[ckR,Ow h,hI,Jv h2]
  rw[Ow h2]at hI;repeat(refine s_ ?_;simp)
  rcases j with _|j
  ·refine drT [] (.pv 0 17 (.done)) ?_;simp[z1];refine Qk rfl ?_;repeat(refine s_ ?_;simp[hw])
   refine Qt _ (ih z1 ?_) rfl (by simp) ?_ (by simp) (by simp)
   ·rw[hI,Ow (by simp[d0q])]
   simp[wrap_one]
  have z7:j<l.length:=by omega
  have z8:d0q l (j+1) l[j+1]=decide (l[j+1].lo<W (l[j].hi+2)):=by simp[d0q,z7]
  have zc:IntKind.i64.wrap ((j:Int)+1 - 1)=j:=by rw[wrap_i64 _ (by omega) (by omega)];omega
  have zd:IntKind.i64.wrap (j:Int)=j:=wrap_i64 _ (by omega) (by omega);have hp:(0:Int)<(j:Int)+1:=by omega
  have ze:IntKind.i64.wrap ((j:Int)+1+1)=j+1+1:=wrap_i64 _ (by omega) (by omega);have zf:((j:Int)+1).toNat=j+1:=by omega
  have zg:(0:Int)<=(j:Int)+1:=by omega
  have zh:(j:Int)+1<l.length:=by omega
  have zi:(j:Int)<l.length:=by omega
  refine drT [] (.pv 0 17 (.done)) ?_;simp[z1,z7,zc,zd,hp,zf,zg,zh,zi];refine Qa rfl (λh3=>?_) (λh3=>?_)
  ·repeat(refine s_ ?_;simp)
   rw[ckR,Ow h,hI,Jv (by rw[z8];exact h3)]
  rw[Ow (by rw[z8];exact h3)]at hI;repeat(refine s_ ?_;simp[ze])
  refine Qt _ (ih z1 hI) rfl (by simp) ?_ (by simp) (by simp);simp
 have z6:j=l.length:=by simp at zb;omega
 subst z6;repeat(refine s_ ?_;simp)
 rw[ckR,Ow h,hI,xX];rfl
end
def Qb{H:List AObj}{i:Nat}{x:AObj}(h:H[i]?=some x)(G:List AObj):(H++G)[i]?=some x:=by rw[zH (zB.1 h).1];exact h
def Qg{H:List AObj}{i:Nat}{x:AObj}(h:H[i]?=some x)(G:List AObj)(y:AObj):(H++G).set i y=H.set i y++G:=
 List.set_append_left _ _ (zB.1 h).1
def Fp(H:List AObj)(x:AObj)(G:List AObj):(H++x::G)[H.length]?=some x:=by simp
def Qc{H:List AObj}{i j:Nat}{x:AObj}(z1:j≠i)(h:H[i]?=some x)(y:AObj):(H.set j y)[i]?=some x:=by rw[zE z1];exact h
def Qf{H:List AObj}{i:Nat}{x:AObj}(h:H[i]?=some x)(y:AObj):(H.set i y)[i]?=some y:=zK (zB.1 h).1
def A9{P:Program}[Env P]{f:Nat}{args:List AV}{H0:List AObj}{R:AV->List AObj->Prop}(h:∀H1,H1=H0->FC P f args H1 R):FC P f args H0 R:=h _ rfl
end Go.Abs
namespace Go.Proofs
open Go.Shelf
def Tryz.sortIv_ren:Go.Shelf.Ren:=⟨λ|6=>174|15=>199|14=>225|28=>244|29=>245|20=>263|21=>264|22=>265|23=>266|24=>267|25=>268|26=>269|27=>270|46=>306|47=>292|48=>293|49=>307|50=>308|57=>322|n=>n,λ|22=>145|24=>144|25=>233|3=>3|39=>189|0=>0|53=>255|55=>258|4=>4|46=>291|45=>290|50=>112|5=>5|9=>9|66=>327|70=>331|76=>349|77=>350|n=>n,λ|n=>n⟩
def Tryz.sortIv:Go.Proofs.SlLaysF0.n6 prog Tryz.sortIv_ren:={
 mixed:=by kernel_rfl
 f6:=⟨Tryz.f174.name,by decide,func174.trans (congrArg some (by kernel_rfl))⟩
 f14:=⟨Tryz.f225.name,by decide,func225.trans (congrArg some (by kernel_rfl))⟩
 f15:=func199.trans (congrArg some (by kernel_rfl))
 f20:=⟨Tryz.f263.name,by decide,func263.trans (congrArg some (by kernel_rfl))⟩
 f21:=⟨Tryz.f264.name,by decide,func264.trans (congrArg some (by kernel_rfl))⟩
 f22:=⟨Tryz.f265.name,by decide,func265.trans (congrArg some (by kernel_rfl))⟩
 f23:=⟨Tryz.f266.name,by decide,func266.trans (congrArg some (by kernel_rfl))⟩
 f24:=⟨Tryz.f267.name,by decide,func267.trans (congrArg some (by kernel_rfl))⟩
 f25:=⟨Tryz.f268.name,by decide,func268.trans (congrArg some (by kernel_rfl))⟩
 f26:=⟨Tryz.f269.name,by decide,func269.trans (congrArg some (by kernel_rfl))⟩
 f27:=⟨Tryz.f270.name,by decide,func270.trans (congrArg some (by kernel_rfl))⟩
 f28:=func244.trans (congrArg some (by kernel_rfl))
 f29:=func245.trans (congrArg some (by kernel_rfl))
 f46:=⟨Tryz.f306.name,by decide,func306.trans (congrArg some (by kernel_rfl))⟩
 f47:=func292.trans (congrArg some (by kernel_rfl))
 f48:=func293.trans (congrArg some (by kernel_rfl))
 f49:=⟨Tryz.f307.name,by decide,func307.trans (congrArg some (by kernel_rfl))⟩
 f50:=⟨Tryz.f308.name,by decide,func308.trans (congrArg some (by kernel_rfl))⟩
 f57:=⟨Tryz.f322.name,by decide,func322.trans (congrArg some (by kernel_rfl))⟩
 t0:=underlying0
 a0:=isAgg0
 z0:=sizeOf0
 v0:=zeroValue0
 t3:=underlying3
 a3:=isAgg3
 z3:=sizeOf3
 v3:=zeroValue3
 t4:=underlying4
 a4:=isAgg4
 z4:=sizeOf4
 v4:=zeroValue4
 t5:=underlying5
 a5:=isAgg5
 z5:=sizeOf5
 v5:=zeroValue5
 t9:=underlying9
 a9:=isAgg9
 z9:=sizeOf9
 v9:=zeroValue9
 t22:=underlying145
 a22:=isAgg145
 z22:=sizeOf145
 v22:=zeroValue145
 t25:=underlying233
 a25:=isAgg233
 z25:=sizeOf233
 v25:=zeroValue233
 t39:=underlying189
 a39:=isAgg189
 z39:=sizeOf189
 v39:=zeroValue189
 t45:=underlying290
 a45:=isAgg290
 z45:=sizeOf290
 v45:=zeroValue290
 t46:=underlying291
 a46:=isAgg291
 z46:=sizeOf291
 v46:=zeroValue291
 t50:=underlying112
 a50:=isAgg112
 z50:=sizeOf112
 v50:=zeroValue112
 t53:=underlying255
 a53:=isAgg255
 z53:=sizeOf255
 v53:=zeroValue255
 t55:=underlying258
 a55:=isAgg258
 z55:=sizeOf258
 v55:=zeroValue258
 t66:=underlying327
 a66:=isAgg327
 z66:=sizeOf327
 v66:=zeroValue327
 t70:=underlying331
 a70:=isAgg331
 z70:=sizeOf331
 v70:=zeroValue331
 t76:=underlying349
 a76:=isAgg349
 z76:=sizeOf349
 v76:=zeroValue349
 t77:=underlying350
 a77:=isAgg350
 z77:=sizeOf350
 v77:=zeroValue350 }
def Tryz.laysNm220_ren:Go.Shelf.Ren:=⟨λ|20=>172|n=>n,λ|22=>47|3=>3|4=>4|0=>0|n=>n,λ|n=>n⟩
def Tryz.laysNm220:Go.Proofs.Lays2.n20 prog Tryz.laysNm220_ren:={
 mixed:=by kernel_rfl
 f20:=func172.trans (congrArg some (by kernel_rfl))
 t0:=underlying0
 a0:=isAgg0
 z0:=sizeOf0
 v0:=zeroValue0
 t3:=underlying3
 a3:=isAgg3
 z3:=sizeOf3
 v3:=zeroValue3
 t4:=underlying4
 a4:=isAgg4
 z4:=sizeOf4
 v4:=zeroValue4
 t22:=underlying47
 a22:=isAgg47
 z22:=sizeOf47
 v22:=zeroValue47
 i3:=by kernel_rfl }
open Go.RowKit Go.Lib Go.Sort in
def Tryz.slices_Compact_int(z1 off cap:Nat)(zs:List Int)(w:World)(hH:Holds (Value.int .i64) w z1 off zs.toArray)(z6:zs.length<=9223372036854775807)(hcap:zs.length<=cap):
  Calls prog 172 #[.slice (some ⟨z1,off,none⟩) zs.length cap] w λe w'=>e= .returned (.slice (some ⟨z1,off,none⟩) (Lib.compact zs).length cap)/\∃q,w'=putRow (Value.int .i64) (Sort.ahead w q) z1 off (Lib.compact zs++yF (zs.length - (Lib.compact zs).length) 0).toArray:=Any.slices_Compact_int Tryz.laysNm220 z1 off cap zs w hH z6 hcap
open Go.RowKit Go.Lib Go.Sort in
def Tryz.slices_Compact_int_empty(a:Option Addr)(cap:Nat)(w:World):
  Calls prog 172 #[.slice a 0 cap] w λe w'=>e= .returned (.slice a 0 cap)/\w'=w:=Any.slices_Compact_int_empty Tryz.laysNm220 a cap w
def Tryz.laysSlC25_f133_ren:Go.Shelf.Ren:=⟨λ|5=>133|7=>200|n=>n,λ|22=>3|3=>3|4=>4|n=>n,λ|n=>n⟩
def Tryz.laysSlC25_f133:Go.Proofs.SlLaysC2.n5 prog Tryz.laysSlC25_f133_ren:={
 mixed:=by kernel_rfl
 f5:=⟨Tryz.f133.name,by decide,func133.trans (congrArg some (by kernel_rfl))⟩
 f7:=⟨Tryz.f200.name,by decide,func200.trans (congrArg some (by kernel_rfl))⟩
 t3:=underlying3
 a3:=isAgg3
 z3:=sizeOf3
 v3:=zeroValue3
 t4:=underlying4
 a4:=isAgg4
 z4:=sizeOf4
 v4:=zeroValue4
 t22:=underlying3
 a22:=isAgg3
 z22:=sizeOf3
 v22:=zeroValue3 }
open Go.Lib in
def Tryz.cmp_Compare_int(x y:Int)(w:World):
  Calls prog 133 #[.int .i64 x,.int .i64 y] w λe w'=>e= .returned (.int .i64 (Lib.compareInt x y))/\w'=w:=AnyG.cmp_Compare_int Tryz.laysSlC25_f133 x y w
end Go.Proofs
namespace Go.Abs
open Go Go.Proofs
section
open Go.RowKit Go.Shelf Go.Lib Go.Sort
def Xk(x:Iv):List Value:=[.int .i64 x.lo,.int .i64 x.hi]
def c2n(x y:Iv):ltOf (λx y:Iv=>Lib.compareInt x.lo y.lo) x y=decide (x.lo<y.lo):=by
 unfold ltOf Lib.compareInt;by_cases h1:x.lo<y.lo
 ·simp[h1]
 by_cases h2:y.lo<x.lo<;>simp[h1,h2]
def c27:SWO (ltOf λx y:Iv=>Lib.compareInt x.lo y.lo) where
 irrefl x:=by rw[c2n];simp
 trans x y z h1 h2:=by rw[c2n]at *;simp at *;omega
 ntrans x y z h1 h2:=by rw[c2n]at *;simp at *;omega
def j2l(l:List Iv):RowOf 2 (l.map encIv) (flatK Xk 2 l.toArray) where
 size:=by simp
 width x hx:=by obtain⟨y,_,rfl⟩:=zO.1 hx;rfl
 cell i x hx j y hy:=by
  rw[zU]at hx;obtain⟨z,hz,rfl⟩:=zQ.1 hx;obtain⟨hi,rfl⟩:=zB.1 hz;have hj:j<2:=(zB.1 hy).1;rw[get_flatK _ _ _ _ (by simp;omega)];rw[show(i * 2+j) / 2=i by omega,show(i * 2+j) % 2=j by omega];rw[getElem!_pos l.toArray i (by simpa using hi)]
  match j,hj with
  |0,_=>simp[encIv,AV.cells]at hy;subst hy;rfl
  |1,_=>simp[encIv,AV.cells]at hy;subst hy;rfl
def VR.fn0{w:World}{I:Nat->Prop}{m:Nat->Option Nat}{n g:Nat}{v:Value}(h:VR w I m n v (.fn (.func g) [] [])):v= .func (.func g) #[] #[]:=by
 cases h with
 |pure h=>
  cases h with
  |fn f vs us xs ys hl h hl' h'=>obtain rfl:vs= #[]:=vS.1 (by simpa using hl);obtain rfl:us= #[]:=vS.1 (by simpa using hl');rfl
 |fn f vs us xs ys hl h hl' h'=>obtain rfl:vs= #[]:=vS.1 (by simpa using hl);obtain rfl:us= #[]:=vS.1 (by simpa using hl');rfl
def K4(g:Nat)(w:World)(I:Nat->Prop)(m:Nat->Option Nat)(n:Nat)(vs:List Value)(hl:vs.length=[AV.fn (.func g) [] []].length)(h:∀(i:Nat) (v:Value) (x:AV),vs[i]?=some v->[AV.fn (.func g) [] []][i]?=some x->VR w I m n v x):vs=[.func (.func g) #[] #[]]:=by
 match vs,hl with
 |[v],_=>have:=h 0 v _ rfl rfl;rw[VR.fn0 this]
def Xx(l:List Iv):Prop:=l.Pairwise (λx y=>x.lo<=y.lo)
end
def W4:List Iv->Iv->List Iv
 |acc,x=>match acc.getLast? with
  |some y=>if x.lo<=y.hi+1 then acc.dropLast++[⟨y.lo,if y.hi<x.hi then x.hi else y.hi⟩]else acc++[x]
  |none=>[x]
def Fc(x:Iv):Prop:=inB x.lo=true/\inB x.hi=true
def Nu(x:Iv):Prop:= -4398046511104<=x.hi/\x.hi<=4398046511104
def v2n(H:List AObj)(p:Nat)(acc:List Iv)(x:Iv)(hp:H[p]?=some (.arr 144 2 (acc.map encIv)))(hl:acc.length<=1000000)(ha:∀y∈acc,Nu y):
  FC prog 280 [.sl p 2 0 acc.length,encIv x] H
   (λr H'=>∃q,r= .sl q 2 0 (W4 acc x).length/\H'[q]?=some (.arr 144 2 ((W4 acc x).map encIv))/\(q=p\/H.length<=q)/\∀i,i≠p->i<H.length->H'[i]? =H[i]?):=by
 refine fcB func280 results280 ntmps280 ?_;simp only[Qd];simp only[encIv];repeat(refine s_ ?_;simp)
 rcases wT acc with rfl|⟨ini,y,rfl⟩
 ·refine drT [] (.pv 0 14 (.done)) ?_;simp;refine Qk rfl ?_;simp;repeat(refine s_ ?_;simp)
  refine apS P6 L1 ?_;simp[Qb hp,Qg hp];refine⟨by simp[Wo,Qb hp,Qg hp]<;>omega,?_⟩;repeat(refine s_ ?_;simp)
  refine⟨H.length+2,⟨rfl,rfl⟩,?_,.inr (by omega),λi z1 z6=>?_⟩
  ·rw[zF (by simp)];simp[W4]
  rw[zH (by simpa using z6),zE (λh=>z1 h.symm)]
 have hy:=ha y (by simp);have za: -4398046511104<=y.hi/\y.hi<=4398046511104:=hy;have hw:IntKind.i64.wrap (y.hi+1)=y.hi+1:=wrap_i64 _ (by omega) (by omega);rw[wU]at hp hl |-;have hlen:(ini++[y]).length=ini.length+1:=by simp
 rw[hlen]at hl |-;have z7:IntKind.i64.wrap (ini.length:Int)=ini.length:=wrap_i64 _ (by omega) (by omega);have hg:((ini++[y]).map encIv)[ini.length]?=some (encIv y):=by simp
 have z8:(ini.length:Int)<ini.length+1:=by omega
 refine drT [] (.pv 0 14 (.done)) ?_;simp[Qb hp,z7,hg,hw,z8];refine Qa rfl (λh1=>?_) (λh1=>?_)
 ·repeat(refine s_ ?_;simp)
  refine drT [14] (.pv 0 14 (.one 14 (.done))) ?_;simp[Qb hp,z7,hg,hw,z8,Qg hp];repeat(refine s_ ?_;simp)
  have hR:W4 (ini++[y]) x=ini++[⟨y.lo,if y.hi<x.hi then x.hi else y.hi⟩]:=by
   have:x.lo<=y.hi+1:=by simpa using h1
   simp[W4,this]
  rw[hR];refine⟨p,⟨rfl,by simp⟩,Qb (Qf hp _) _ |>.trans (by simp[encIv]),.inl rfl,λi z1 z6=>?_⟩;rw[zH (by simpa using z6),zE (λh=>z1 h.symm)]
 repeat(refine s_ ?_;simp)
 refine apS P6 L1 ?_;simp[Qb hp,Qg hp];refine⟨by simp[Wo,Qb hp,Qg hp]<;>omega,?_⟩;repeat(refine s_ ?_;simp)
 have hR:W4 (ini++[y]) x=ini++[y]++[x]:=by
  have:¬(x.lo<=y.hi+1):=by simpa using h1
  simp[W4,this]
 rw[hR];refine⟨H.length+2,⟨rfl,by simp⟩,?_,.inr (by omega),λi z1 z6=>?_⟩
 ·rw[zF (by simp)];simp
 rw[zH (by simpa using z6),zE (λh=>z1 h.symm)]
section
def Qz(acc l:List Iv):List Iv:=l.foldl W4 acc
def w0p{x:Iv}(h:Hi x=0):Fc x/\x.lo<=x.hi:=by
 unfold Hi at h;by_cases h1:(!inB x.lo || !inB x.hi)=true
 ·rw[if_pos h1]at h;cases h
 rw[if_neg h1]at h;by_cases h2:decide (x.hi<x.lo)=true
 ·rw[if_pos h2]at h;cases h
 exact⟨by simpa[Fc]using h1,by simpa using h2⟩
def y21{acc:List Iv}{x:Iv}(ha:∀y∈acc,Fc y)(hx:Fc x):∀y∈W4 acc x,Fc y:=by
 rcases wT acc with rfl|⟨ini,z,rfl⟩
 ·simpa[W4]using hx
 have hz:=ha z (by simp);have hi:∀y∈ini,Fc y:=λy hy=>ha y (by simp[hy]);intro y hy;simp only[W4,wU,tv,tc,tT,tw]at hy;split at hy
 ·rcases zV.1 hy with h|h
  ·exact hi y h
  simp at h;subst h;refine⟨hz.1,?_⟩;simp only;split
  ·exact hx.2
  exact hz.2
 rcases zV.1 hy with h|h
 ·rcases zV.1 h with h|h
  ·exact hi y h
  simp at h;subst h;exact hz
 simp at h;subst h;exact hx
def u0k(acc:List Iv)(x:Iv):(W4 acc x).length<=acc.length+1:=by
 rcases wT acc with rfl|⟨ini,z,rfl⟩
 ·simp[W4]
 simp only[W4,wU,tv,tc,tT,tw];split<;>simp
def Sm(acc l:List Iv)(x:Iv):Qz acc (l++[x])=W4 (Qz acc l) x:=by simp[Qz]
def Th:∀(l acc:List Iv),(Qz acc l).length<=acc.length+l.length
 |[],acc=>by simp[Qz]
 |x::r,acc=>by have:=Th r (W4 acc x);have:=u0k acc x;simp only[Qz,xV,yZ]at *;omega
def D5:∀(l acc:List Iv),(∀y∈acc,Fc y)->(∀y∈l,Fc y)->∀y∈Qz acc l,Fc y
 |[],acc,h,_=>by simpa[Qz]using h
 |x::r,acc,h,hl=>D5 r (W4 acc x) (y21 h (hl x (by simp))) (λy hy=>hl y (by simp[hy]))
attribute [local irreducible] Hi
end
def q3h(s:List Iv)(j:Nat)(x:Iv):Bool:=match s[j]? with|some y=>decide (x.lo<y.lo)|none=>false
def A8(s:List Iv)(x:Iv):Nat->Nat
 |0=>0
 |j+1=>if q3h s j x=true then A8 s x j else j+1
def v15(s:List Iv)(x:Iv):List Iv:=s.take (A8 s x s.length)++x::s.drop (A8 s x s.length)
def Py(l:List Iv):List Iv:=l.foldl v15 []
def Ju(s:List Iv)(x:Iv):∀j,A8 s x j<=j
 |0=>zS _
 |j+1=>by
  rw[A8];split
  ·exact Nat.le_succ_of_le (Ju s x j)
  exact zS _
def q22(s:List Iv)(x:Iv):(v15 s x).length=s.length+1:=by have:=Ju s x s.length;simp[v15];omega
def Cc:∀(l acc:List Iv),(l.foldl v15 acc).length=acc.length+l.length
 |[],acc=>by simp
 |x::r,acc=>by rw[xV,Cc r,q22,yZ];omega
def x13(l:List Iv):(Py l).length=l.length:=by rw[Py,Cc];simp
section
def Rg(l:List Iv):List Iv:=Qz [] (Py l)
def Ej(ini:List Iv)(y x:Iv):W4 (ini++[y]) x=if x.lo<=y.hi+1 then ini++[⟨y.lo,if y.hi<x.hi then x.hi else y.hi⟩]else ini++[y]++[x]:=by simp[W4]
attribute [local irreducible] Py
end
end Go.Abs
