/- Part Qc of the proof: an abstract machine over the model, and what the functions of the program hand back in its terms. No condition. -/
import Derived.Test.YtjmkolhkojgjpaaGreatDoorQb
import Derived.Lib.MakeNoZero
import Derived.Carry
import Derived.Maps.Keyed
import Derived.Laws.MakeOwn
import Derived.Calls
import Derived.RunT
import Derived.Lone
import Derived.Shelf.Sort.Plain
import Derived.Shelf.Slices.In.SortNone
import Derived.Ground.SlgcProg
import Derived.Shelf.SlicesG.Cmp
import Derived.Test.YtjmkolhkojgjpaaGreatDoorProg
import Derived.Test.YtjmkolhkojgjpaaGreatDoorChecked
import Derived.KernelRfl
import Derived.Lib.LaidTab
import Derived.Lib.ItoaNum
import Derived.Shelf.SlGeneric
import Derived.Ground.SlsfProg
import Derived.Shelf.SlSortCmp.WholeK
import Derived.Ground.Names2Prog
import Derived.Shelf.Slices.CompactI
import Derived.Shelf.Slices.Cells
set_option linter.all false
open Int renaming natCast_mul→tx
open List renaming replicate→zT,length_map→zV,eq_of_mem_replicate→wV,getElem?_replicate→vw,getElem?_eq_some_iff→zA,getElem?_map→zQ,ext_getElem?→xD,getElem?_set_self→zH,getElem?_set_ne→zB,mem_of_mem_take→yW,getElem?_take→yZ,mem_map→zM,size_toArray→y_,mem_append→zO,mem_singleton→zJ,map_cons→yO,mem_map_of_mem→vZ,all_eq_true→zP,mem_iff_getElem?→yF,getElem_of_mem→yC,mem_of_getElem?→zF,getElem_mem→zG,getElem?_append_right→zC,getElem?_append_left→zE,mem_of_mem_drop→wI,getElem?_drop→yV,getElem?_eq_getElem→zD,eq_nil_of_length_eq_zero→xW,nodup_cons→uu,filter_cons→td,length_eraseIdx→u5,getElem?_eraseIdx→uC,drop_length→yU
open Array renaming size_append→wD,length_toList→xX,getElem?_append_left→yH,getElem?_eq_getElem→yL,ext→tH,toList_push→uV,getElem?_toList→xH,getElem?_modify→wQ,getElem?_eq_some_iff→yB,getElem_toList→uH,getElem?_setIfInBounds_ne→w_,getElem?_push→vD,mem_of_getElem?→vW,replicate→vV,getD_eq_getD_getElem?→xZ,getElem?_append_right→vF,size_eq_zero_iff→wX
open Nat renaming add_mul→zX,le_refl→zK,mul_le_mul_right→zS,mod_eq_of_lt→tl,zero_add→xF,zero_mul→ul,le_trans→yP,eq_zero_or_pos→wP,le_succ→vQ,le_of_eq→tF,one_mul→tw
open Option renaming map_eq_some_iff→zN,map_some→wB,getD_some→wH
open Bool renaming and_eq_true→zR
set_option maxHeartbeats 1000000
set_option linter.unusedSimpArgs false
set_option maxRecDepth 100000
namespace Go.Abs
open Go Go.RowKit
section
variable {P:Program} [Env P] {T:TT} {nt k:Nat} {S:AS} {ops:Array Oper} {o:Oper} {R:AS→Prop} {Q:Exit→AS→Prop}
theorem Po {w:World} (t tn ty e:TypeId) (i:TypeInfo) (z:Value) (kk kn:IntKind) (ht:P.underlying t=some (.slice e)) (zb:P.underlying tn=some (.int kn)) (hi:P.info? e=some i) (hz:i.zero=some z)
  (n:Nat) (h0:0<n) (hs:0<i.size) (ze:(n:Int)≤9223372036854775807) (zf:n * i.bytes≤281474976710656) (zc:Builtin.nextslicecap n 0 * i.bytes≤281474976710656):
  (Builtin.append_ #[t,tn] ty #[.slice none 0 0,.int kk n]).run P w=
   .ok (.slice (some ⟨w.heap.size,0,none⟩) n (grownCap w n 0 e))
    (w.drew.alloc (.cells (Builtin.zeroCells z.cells n++Builtin.zeroCells z.cells (grownCap w n 0 e - n)) e)):=by
 have hn:n≠0:=by omega
 have hw:IntKind.i64.wrap (n:Int)=n:=by rw[IntKind.wrap_i64];omega
 have z6:¬(9223372036854775807<((0:Int)+(n:Int))):=by omega
 have z1:¬(9223372036854775807<(n:Int)):=by omega
 have z7:¬(281474976710656<Builtin.nextslicecap n 0 * i.bytes):=by omega
 have z8:¬(281474976710656<(n:Int) * (i.bytes:Int)):=by rw[←tx];omega
 have za:¬((n:Int)<0):=by omega
 have zd:¬(n * i.size=0):=Nat.mul_ne_zero hn (by omega);simp[Builtin.append_,run_underlying ht,run_underlying zb,sizeOf,typeInfo,zeroValue,hi,hz,asInt,asIntOf,hw,hn,za,zd,z6,z1,z7,z8,Question.forced,run_firstCells_none,newRow,grownCap]

theorem Pn (hT:TOk P T) (hw:Wf ops S o=some true) {s x:Operand} {t tn e:TypeId} (ho:o.op= .call ⟨.builtin .append,#[s,x],#[t,tn]⟩) {it itn ei:TI} (ht:look T t=some it) (hit:it.desc= .slice e)
  (zh:look T tn=some itn) {kn:IntKind} (z8:itn.desc= .int kn) (he:look T e=some ei) (hz:ei.zero.cells.size=ei.size) (zp:0<ei.size) {n:Nat} (hs:rho S.sl s=some .nils) (hx:rho S.sl x=some (.int .i64 n))
  (h0:0<n) (hbound:n * ei.bytes≤140737488355328) (hlen:n≤9223372036854775807)
  (z:AV) (zb:z.cells=ei.zeros) (hd:Ef nt o=true)
  (hR:R (({ S with hp:=S.hp++[.arr e ei.size (zT n z)] }:AS).putD o.dst (.sl S.hp.length ei.size 0 n))):Wy P nt k true ops o S R:=fun C a w K Q hst hK=>by
 unfold OpW;rw[if_pos (hst.wanted hw)];obtain⟨I,m,zi,za,zj,hE⟩:=hst;obtain⟨ti,zk,tz,ts,tb⟩:=hT.info he;have zc:=hT.und ht;rw[hit]at zc;have z1:=hT.und zh;rw[z8]at z1;have zl:=(Q7 za hx).int_inv;have zm:=(Q7 za hs).nils_inv;have z6:=Po (P:=P) (w:=w) t tn o.type e ti ei.zero .i64 kn zc z1 zk tz n h0 (by omega) (by omega) (by rw[tb];omega)
  (growslice_fits (by omega) (by rw[tb];exact hbound))
 have c1:=grownCap_ge w n 0 e;have c2:grownCap w n 0 e≤maxLen:=grownCap_le_maxLen w _ 0 e (by unfold maxLen;omega);have zd:(Builtin.zeroCells ei.zero.cells n).size=n * ei.size:=by rw[size_zeroCells,hz]
 generalize ze:Builtin.zeroCells ei.zero.cells n++Builtin.zeroCells ei.zero.cells (grownCap w n 0 e - n)=cs at z6;have z7:cs.size=grownCap w n 0 e * ei.size:=by
  rw[←ze];simp only[wD,size_zeroCells,hz,←zX]
  congr 1;omega
 have zn:z.cells.length=ei.size:=by rw[zb,TI.zeros,zV,xX];exact hz
 have zo:Below w.heap.size w (w.drew.alloc (.cells cs e)):=(Below.refl _ _).drew.alloc (zK _) _;obtain⟨g1,g2⟩:=zi.push zo (some w.heap.size) (fun b e=>by injection e with e;subst e;simp) (.arr e ei.size (zT n z)) (fun m' hf hm=> .inr ⟨w.heap.size,grownCap w n 0 e,cs,rfl,heap_alloc_new w.drew _,by simp;omega,c2,z7,
  fun y hy=>by rw[wV hy];exact zn,fun p y hp j v hv=>by
   rw[vw]at hp;split at hp
   ·rename_i zq;obtain rfl:=Option.some.inj hp;have hj:j<ei.size:=by have:=(zA.1 hv).1;omega
    have zf:p * ei.size+j<n * ei.size:=by have:(p+1) * ei.size≤n * ei.size:=zS _ (by omega);rw[zX]at this;omega
    have zg:j<ei.zero.cells.size:=by omega
    refine⟨ei.zero.cells[j],?_,?_⟩
    ·rw[←ze,yH (by rw[zd];exact zf),yL (by rw[zd];exact zf)];simp only[Builtin.zeroCells,Array.getElem_map,Array.getElem_range,Option.some.injEq];rw[hz,Nat.add_comm,Nat.add_mul_mod_self_right,tl hj];exact getElem!_pos ei.zero.cells j zg
    ·have:v=zeroCell ei.zero.cells[j]:=by
      rw[zb,TI.zeros,zQ]at hv;have h5:ei.zero.cells.toList[j]? =some ei.zero.cells[j]:=by simp[zg]
      rw[h5]at hv;exact(Option.some.inj hv).symm
     rw[this];exact Y2 _
   ·cases hp⟩)
 unfold wpA;have:(execOp a.eval o).run P w= .ok (.value (.slice (some ⟨w.heap.size,0,none⟩) n (grownCap w n 0 e))) (w.drew.alloc (.cells cs e)):=by simp[execOp,ho,resolve,invoke,builtin,zm,zl,z6]
 rw[this];refine hK _ _ _ hR (St.value za zj hE g1 g2 (by simp) (Q5 hd) ?_) (fun e=>by cases e);have:=VR.sl (w:=w.drew.alloc (.cells cs e)) (I:=I) (m:=upd m S.hp.length (some w.heap.size)) (n:=S.hp.length+1) S.hp.length ei.size 0 n (grownCap w n 0 e) w.heap.size e (by omega) (Wn _ _ _)
  (by have:=heap_alloc_new w.drew (.cells cs e);simp only[World.size_drew]at this;simp only[World.shape?,this,z7,xF]) c1 (by omega)
 simpa using this
theorem Im (hT:TOk P T) {wr:Bool} (hw:Wf ops S o=some true) {x:Operand} {t e:TypeId} (ho:o.op= .call ⟨.builtin .cap,#[x],#[t]⟩) {it:TI} (ht:look T t=some it) (hit:it.desc= .slice e)
  (hx:rho S.sl x=some .nils) (hd:Ef nt o=true) (hR:R (S.putD o.dst (.int .i64 (0:Nat)))):Wy P nt k wr ops o S R:=fun C a w K Q hst hK=>by
 unfold OpW;rw[if_pos (hst.wanted hw)];obtain⟨I,m,z7,z1,hk,hE⟩:=hst;have z6:=hT.und ht;rw[hit]at z6;have z8:=(Q7 z1 hx).nils_inv;unfold wpA;have:(execOp a.eval o).run P w= .ok (.value (goInt 0)) w:=by simp[execOp,ho,resolve,invoke,builtin,z8,k1v z6]
 rw[this];exact hK _ _ w hR (St.value z1 hk hE z7 (Fut.refl _ _ _ _) (zK _) (Q5 hd) (.pure (.int _ _))) (fun _=>Tw.refl w)
theorem H5{c:Code}{sl:List (Nat×AV)}{H:List AObj}(i k':Nat){e:TypeId}{cw:Nat}{xs:List AV}(hi:H[i]? =some (.arr e cw xs))(h:AWP P nt k c Q ⟨sl,H.set i (.arr e cw (xs.take k'))⟩):AWP P nt k c Q ⟨sl,H⟩:=fun C a w hs=>by
 obtain⟨I,m,hw,z1,hk,hf⟩:=hs;have hlen:(H.set i (.arr e cw (xs.take k'))).length=H.length:=by simp
 rcases hw.obj i _ hi with⟨e1,e2⟩|⟨b,cap,vs,hb,hh,q1,q2,q3,q4,hr⟩
 ·subst e2;have:H.set i (.arr e cw (([]:List AV).take k'))=H:=by
   rw[List.take_nil];exact xD fun j=>by
    by_cases hj:j=i
    ·subst hj;rw[hi,zH (zA.1 hi).1]
    ·rw[zB (fun e=>hj e.symm)]
  rw[this]at h;exact h C a w ⟨I,m,hw,z1,hk,hf⟩
 ·obtain⟨g1,g2⟩:=hw.set (w':=w) (o':= .arr e cw (xs.take k')) hi rfl hb (World.grownBy.refl _ _) (fun _ h=>h) (fun m' z7=> .inr ⟨b,cap,vs,rfl,hh,by simp;omega,q2,q3,fun x hx=>q4 x (yW hx),fun j x hx=>by
   rw[yZ]at hx;split at hx
   ·exact hr j x hx
   ·cases hx⟩)
  refine h C a w ⟨I,m,g1,⟨z1.1,z1.2.1,fun t x hx=> ?_⟩,by rw[hlen];exact hk,hf⟩;obtain⟨v,hv,z6⟩:=z1.2.2 t x hx;exact⟨v,hv,by simpa using z6⟩
end
end Go.Abs
namespace Go.Abs
open Go Go.Sort
section
variable {W0:World} {I0:Nat→Prop} {w:World} {I:Nat→Prop} {m:Nat→Option Nat} {H:List AObj} {p b:Nat} {e:TypeId} {k:Nat} {xs:List AV} {F:Array Value}
theorem j1a {P:Program} [Env P] {f:FuncId} (hc:Tl P f) {len:Nat} (zb:xs.length=len) (ho:H[p]? =some (.arr e k xs)) (hF:RowOf k xs F)
  (Rx:List AV→Nat→Prop) (zc:∀ys n,Rx ys n→n≤len)
  (h:∀(b cap:Nat) (w:World),Holds id w b 0 F→b<w.heap.size→len≤cap→cap≤maxLen→Calls P f (#[.slice (some ⟨b,0,none⟩) len cap]) w fun en w'=>∃(z6:List AV) (F':Array Value) (n z1:Nat),en= .returned (.slice (some ⟨b,0,none⟩) z1 cap)∧Rx z6 z1∧z6.length=xs.length∧RowOf k z6 F'∧w'=putRow id (Sort.ahead w n) b 0 F')
  (h0:xs=[]→Rx [] 0∧∀(w:World),Calls P f (#[.slice none 0 0]) w fun en w'=>en= .returned (.slice none 0 0)∧w'=w):
  FC P f [.sl p k 0 len] H (fun r H'=>∃z6 z1,r= .sl p k 0 z1∧Rx z6 z1∧H'=H.set p (.arr e k z6)):=by
 refine⟨hc,fun W0 I0 w I m vals hE z7 zd hv=> ?_⟩;rcases vals with⟨vals⟩
 match vals,zd with
 |[v],_=>
  have ze:=hv 0 v _ rfl rfl;rcases ze.sl_inv with⟨b,cap,t,hb,hn,zf,hle,hmax,z8⟩|⟨hb,hn,_,zg,z8⟩|⟨_,_,hlo,_,_⟩
  ·subst z8;obtain⟨g1,g2⟩:=u0b z7 ho hb hF;have:=h b cap w g1 g2 hle (by omega);simp only[ul];refine Calls.mono this ?_;rintro en w' ⟨z6,F',n,z1,rfl,hx,hl,zh,rfl⟩;obtain⟨k1,k2⟩:=f0b z7 ho hb hF hl zh n #[];rw[grow_empty]at k1 k2;refine⟨_,_,_,I,m,⟨z6,z1,rfl,hx,rfl⟩,rfl,k1,by simp,k2,?_⟩;have:=VR.sl (w:=putRow id (Sort.ahead w n) b 0 F') (I:=I) (m:=m) (n:=(H.set p (.arr e k z6)).length) p k 0 z1 cap b t (by simpa using hn) hb (k2.shape _ _ zf) (yP (zc _ _ hx) hle) (by omega);simpa using this
  ·subst z8;have za:xs=[]:=by cases xs with|nil=>rfl|cons=>simp at zb;omega
   obtain⟨r0,r1⟩:=h0 za;subst zg;refine Calls.mono (r1 w) ?_;rintro en w' ⟨rfl,rfl⟩;refine⟨_,_,H,I,m,⟨[],0,rfl,r0,?_⟩,rfl,z7,zK _,.refl _ _ _ _,.slnone p k hn hb⟩;rw[←za];exact(xD fun i=>by
    by_cases hi:i=p
    ·subst hi;rw[ho,zH (zA.1 ho).1]
    ·rw[zB (fun h=>hi h.symm)])
  ·omega
theorem q25(zs:List Int):RowOf 1 (zs.map (AV.int .i64)) (zs.map (Value.int .i64)).toArray where
 size:=by simp
 width x hx:=by obtain⟨y,_,rfl⟩:=zM.1 hx;rfl
 cell i x hx j y hy:=by
  rw[zQ]at hx;obtain⟨z,hz,rfl⟩:=zN.1 hx;obtain⟨hi,rfl⟩:=zA.1 hz;have hj:j=0:=by have:=(zA.1 hy).1;simp[AV.cells]at this;exact this
  subst hj;simp[AV.cells]at hy;subst hy;rw[Nat.mul_one,Nat.add_zero,getElem!_pos _ i (by simpa using hi)];simp[AV.val]
theorem Vd{w:World}{b:Nat}{zs:List Int}(h:Holds id w b 0 (zs.map (Value.int .i64)).toArray):Holds (Value.int .i64) w b 0 zs.toArray:=fun j hj=>by
 have z1:j<zs.length:=by simpa using hj
 have:=h j (by simpa using z1);rw[getElem!_pos _ j (by simpa using z1)]at this;rw[getElem!_pos _ j (by simpa using z1)];simpa using this
theorem Jr(w:World)(b:Nat)(zs:List Int):putRow (Value.int .i64) w b 0 zs.toArray=putRow id w b 0 (zs.map (Value.int .i64)).toArray:=by
 unfold putRow;refine mapBlock_congr _ _ _ _ fun c e fr _=> ?_;unfold putCells;refine tH (by simp) fun i h1 h2=> ?_;simp only[Array.getElem_mapIdx,y_,zV,id];split
 ·rename_i hh;have hi:i - 0<zs.length:=by omega
  rw[getElem!_pos _ (i - 0) (by simpa using hi),getElem!_pos _ (i - 0) (by simpa using hi)];simp
 ·rfl
end
end Go.Abs
namespace Go.Abs
open Go Go.RowKit
section
variable {P:Program} [Env P] {T:TT} {nt k:Nat} {S:AS} {ops:Array Oper} {o:Oper} {R:AS→Prop} {Q:Exit→AS→Prop}
end
end Go.Abs
namespace Go.Abs
open Go Go.RowKit Go.Maps
theorem AV.val_inj{x y:AV}{u:Value}(hx:x.val=some u)(hy:y.val=some u):x=y:=by
 cases x<;>simp[AV.val]at hx<;>subst hx<;>cases y<;>simp[AV.val]at hy
 ·rw[hy]
 ·rw[hy.1,hy.2]
 ·rw[hy]
theorem MpSz.push{es:Array MapEntry}{ck:Nat}{kvs:List (AV×AV)}(h:MpSz es ck kvs)(u v:Value)(p:AV×AV):MpSz (es.push ⟨u,v,ck⟩) (ck+1) (kvs++[p]):=by
 refine⟨by simp[h.size],fun x hx=> ?_,?_⟩
 ·simp only[uV,zO,zJ]at hx;rcases hx with hx|rfl
  ·have:=h.born x hx;omega
  ·simp
 ·simp only[uV,List.map_append,yO,List.map_nil];refine List.nodup_append.2 ⟨h.nodup,by simp,fun a ha b hb=> ?_⟩;obtain⟨x,hx,rfl⟩:=zM.1 ha;have:=h.born x hx;simp at hb;omega
theorem MpSz.modify{es:Array MapEntry}{ck:Nat}{kvs:List (AV×AV)}(h:MpSz es ck kvs)(j:Nat)(u v:Value)(p:AV×AV):MpSz (es.modify j fun e=>{ e with key:=u,val:=v }) ck (kvs.set j p):=by
 have hb:((es.modify j fun e=>{ e with key:=u,val:=v }).toList.map (·.born))=es.toList.map (·.born):=by
  apply xD;intro i;simp only[zQ,xH,wQ];split
  ·subst_vars
   cases es[i]? <;>rfl
  ·rfl
 refine⟨by simp[h.size],fun x hx=> ?_,by rw[hb];exact h.nodup⟩;have h1:x.born∈es.toList.map (·.born):=by rw[←hb];exact vZ hx
 obtain⟨y,hy,e⟩:=zM.1 h1;have:=h.born y hy;omega
def AV.kv:AV→Option Value
 | .agg cs=>(Wh (cs.map AV.val)).map fun l=> .agg l.toArray
 | .bool b=>some (.bool b)
 | .int k n=>some (.int k n)
 | .str s=>some (.string ⟨s.toArray⟩)
 |_=>none
theorem Yh{α β:Type}{f:α→Option β}:∀ {l:List α} {r:List β},Wh (l.map f)=some r→r.length=l.length∧∀(i:Nat) (x:α),l[i]? =some x→∃y,r[i]? =some y∧f x=some y
 |[],r,h=>by simp[Wh]at h;subst h;exact⟨rfl,fun i x hx=>by simp at hx⟩
 |x::l,r,h=>by
  rw[yO]at h;cases hf:f x with
  |none=>simp[Wh,hf]at h
  |some y=>
   cases hr:Wh (l.map f)with
   |none=>simp[Wh,hf,hr]at h
   |some r'=>
    simp[Wh,hf,hr]at h;subst h;obtain⟨h1,h2⟩:=Yh hr;refine⟨by simp[h1],fun i z hz=> ?_⟩;cases i with
    |zero=>simp at hz;subst hz;exact⟨y,rfl,hf⟩
    |succ i=>exact h2 i z (by simpa using hz)
theorem PVR.kv{w:World}{I:Nat→Prop}{v u:Value}{x:AV}(h:PVR w I v x)(hx:x.kv=some u):v=u:=by
 cases x with
 |agg cs=>
  simp only[AV.kv]at hx;cases hr:Wh (cs.map AV.val)with
  |none=>rw[hr]at hx;cases hx
  |some l=>
   rw[hr]at hx;simp only[wB,Option.some.injEq]at hx;subst hx;obtain⟨h1,h2⟩:=Yh hr;cases h with
   |agg vs _ hl hall=>
    congr 1
    refine tH (by simp[h1,hl]) fun i g1 g2=> ?_;have hc:i<cs.length:=by omega
    obtain⟨y,hy,hv⟩:=h2 i cs[i] (by simp[hc]);have:=(hall i vs[i] cs[i] (by simp[g1]) (by simp[hc])).val hv;rw[this];have e:l[i]? =some y:=hy;obtain⟨q1,q2⟩:=zA.1 e;simpa using q2.symm
 |bool b=>simp only[AV.kv,Option.some.injEq]at hx;subst hx;exact h.val rfl
 |int k n=>simp only[AV.kv,Option.some.injEq]at hx;subst hx;exact h.val rfl
 |str s=>simp only[AV.kv,Option.some.injEq]at hx;subst hx;exact h.val rfl
 |_=>simp[AV.kv]at hx
theorem AV.kv_inj{x y:AV}{u:Value}(hx:x.kv=some u)(hy:y.kv=some u):x=y:=by
 have z1:∀ {z:AV},(∀cs,z≠ .agg cs)→z.kv=z.val:=fun {z} hz=>by cases z<;>first|rfl|exact absurd rfl (hz _)
 have z6:∀ {z:AV} {cs:List AV},z.val=some u→(AV.agg cs).kv=some u→False:=fun {z cs} h1 h2=>by simp only[AV.kv]at h2;obtain⟨l,_,rfl⟩:=zN.1 h2;cases z<;>simp[AV.val]at h1
 by_cases h1:∃cs,x= .agg cs
 ·obtain⟨cs,rfl⟩:=h1;by_cases h2:∃ds,y= .agg ds
  ·obtain⟨ds,rfl⟩:=h2;simp only[AV.kv]at hx hy;obtain⟨l,e1,e2⟩:=zN.1 hx;obtain⟨r,e3,e4⟩:=zN.1 hy;have e5:l=r:=by rw[←e4]at e2;simpa using e2
   subst e5;obtain⟨l1,f1⟩:=Yh e1;obtain⟨l2,f2⟩:=Yh e3
   congr 1
   refine List.ext_getElem (by omega) fun i g1 g2=> ?_;obtain⟨y1,a1,b1⟩:=f1 i cs[i] (by simp[g1]);obtain⟨y2,a2,b2⟩:=f2 i ds[i] (by simp[g2]);rw[a1]at a2;cases a2;exact AV.val_inj b1 b2
  ·rw[z1 (fun cs e=>h2 ⟨cs,e⟩)]at hy;exact(z6 hy hx).elim
 ·rw[z1 (fun cs e=>h1 ⟨cs,e⟩)]at hx;by_cases h2:∃ds,y= .agg ds
  ·obtain⟨ds,rfl⟩:=h2;exact(z6 hx hy).elim
  ·rw[z1 (fun cs e=>h2 ⟨cs,e⟩)]at hy;exact AV.val_inj hx hy
theorem AV.kv_pure{x:AV}{u:Value}(h:x.kv=some u):x.pure=true:=by
 cases x with
 |agg cs=>simp only[AV.kv]at h;obtain⟨l,e1,_⟩:=zN.1 h;obtain⟨_,f1⟩:=Yh e1;unfold AV.pure;simp only[List.all_subtype,List.unattach_attach,zP];intro z hz;obtain⟨i,hi⟩:=yF.1 hz;obtain⟨y,_,hy⟩:=f1 i z hi;cases z<;>simp[AV.val]at hy<;>simp[AV.pure]
 |_=>first|(simp[AV.pure];done)|(simp[AV.kv]at h)
def isKey(P:Program)(k:TypeId)(x:AV):Prop:=∃u l,x.kv=some u∧keyOf P k u=some l
section
variable {P:Program} [Env P] {T:TT} {nt k:Nat} {S:AS} {ops:Array Oper} {o:Oper} {R:AS→Prop} {Q:Exit→AS→Prop}
theorem Rl {wr:Bool} (hw:Wf ops S o=some true) (hd:Ef nt o=true) {t:TypeId} (ho:o.op= .makeMap t none)
  (hR:R (({ S with hp:=S.hp++[.mp []] }:AS).putD o.dst (.mref S.hp.length))):Wy P nt k wr ops o S R:=fun C a w K Q hst hK=>by
 unfold OpW;rw[if_pos (hst.wanted hw)];obtain⟨I,m,z7,z8,za,hE⟩:=hst;have z1:(execOp a.eval o).run P w= .ok (.value (.map (some w.heap.size))) (w.alloc (.map #[] 0)):=by have h0:=run_makeMap (P:=P) t w;simp[execOp,ho,h0]
 have z6:Below w.heap.size w (w.alloc (.map #[] 0)):=(Below.refl _ _).alloc (zK _) _;have hh:(w.alloc (.map #[] 0)).heap[w.heap.size]? =some (.map #[] 0):=heap_alloc_new w _;obtain⟨g1,g2⟩:=z7.push z6 (some w.heap.size) (fun b e=>by injection e with e;subst e;exact⟨zK _,(yB.1 hh).1⟩) (.mp []) (fun m' hf hm=>⟨w.heap.size,#[],0,rfl,hh,⟨rfl,by simp,by simp⟩,fun i e p he _=>by simp at he⟩);unfold wpA;rw[z1];refine hK _ _ _ hR (St.value z8 za hE g1 g2 (by simp) (Q5 hd) (.mref _ _ (by simp) (Wn _ _ _))) (fun _=>Tw.of_below z6)
theorem Pv {w:World} {I:Nat→Prop} {es:Array MapEntry} {kvs:List (AV×AV)} {kt:TypeId} (K:Keyed P kt) (hl:es.size=kvs.length)
  (z7:∀(i:Nat) (e:MapEntry) (p:AV×AV),es[i]? =some e→kvs[i]? =some p→PVR w I e.key p.1) {kx:AV} {u:Value} {lk:Lit} (hu:kx.kv=some u) (hk:keyOf P kt u=some lk) (zb:∀p∈kvs,isKey P kt p.1):
  ((Instr.findKey kt u es.toList).run P w= .ok none w∧∀p∈kvs,p.1≠kx)∨
  ∃j e p,(Instr.findKey kt u es.toList).run P w= .ok (some (j,e.val)) w∧es[j]? =some e∧kvs[j]? =some p∧p.1=kx∧e.key=u:=by
 have z1:∀(i:Nat) (e:MapEntry),es[i]? =some e→∃p,kvs[i]? =some p:=fun i e he=>by have hi:i<es.size:=(yB.1 he).1;exact⟨kvs[i]'(by omega),by simp⟩
 rcases K.find w hk es.toList (fun e he=>by
  obtain⟨i,hi,rfl⟩:=yC he;have z8:i<es.size:=by simpa using hi
  have z6:es[i]? =some es[i]:=by simp[z8]
  obtain⟨p,hp⟩:=z1 i _ z6;obtain⟨v,l,hv,hl'⟩:=zb p (zF hp);have:=(z7 i _ p z6 hp).kv hv;refine⟨l,?_⟩;simp only[uH];rw[this];exact hl')with⟨h1,h2⟩|⟨j,e,h1,h2,h3⟩
 ·refine .inl ⟨h1,fun p hp zc=> ?_⟩;obtain⟨i,hi,rfl⟩:=yC hp;have z8:i<es.size:=by omega
  have z6:es[i]? =some es[i]:=by simp[z8]
  have:=(z7 i _ kvs[i] z6 (by simp)).kv (by rw[zc];exact hu);exact h2 es[i] (by rw[←uH];exact zG _) this
 ·have za:es[j]? =some e:=by rw[←xH];exact h2
  obtain⟨p,hp⟩:=z1 j e za;obtain⟨v,l,hv,_⟩:=zb p (zF hp);have h4:=(z7 j e p za hp).kv hv;refine .inr ⟨j,e,p,h1,za,hp,?_,h3⟩;exact AV.kv_inj hv (by rw[hu,←h4,h3])
theorem De (hT:TOk P T) {wr:Bool} (hw:Wf ops S o=some true) (hd:Ef nt o=true) {t kt et:TypeId} {x ix:Operand} (ho:o.op= .lookup t x ix false) {it ei:TI} (ht:look T t=some it) (hit:it.desc= .map kt et) (he:look T et=some ei)
  (K:Keyed P kt) {id:Nat} (hx:rho S.sl x=some (.mref id)) {kx:AV} (zd:rho S.sl ix=some kx) {kvs:List (AV×AV)} (ze:S.hp[id]? =some (.mp kvs)) (zf:isKey P kt kx) (zg:∀p∈kvs,isKey P kt p.1) {z:AV} (hz:z.val=some ei.zero)
  (zh:∀(j:Nat) (p:AV×AV),kvs[j]? =some p→p.1=kx→R (S.putD o.dst p.2)) (zi:(∀p∈kvs,p.1≠kx)→R (S.putD o.dst z)):Wy P nt k wr ops o S R:=fun C a w K' Q hst hK=>by
 unfold OpW;rw[if_pos (hst.wanted hw)];obtain⟨I,m,z7,z6,hk,hE⟩:=hst;have z8:=hT.und ht;rw[hit]at z8;obtain⟨b,hb,_,zb⟩:=(Q7 z6 hx).mref_inv;obtain⟨u,lk,hu,za⟩:=zf;have zj:kx.pure=true:=AV.kv_pure hu;have z1:=((Q7 z6 zd).toPure zj).kv hu;obtain⟨b',es,ck,zc,hh,zk,hr⟩:=z7.obj id _ ze;have hl:=zk.size;obtain rfl:b=b':=by rw[hb]at zc;exact Option.some.inj zc
 have zl:=hT.zero he w;unfold wpA;rcases Pv K hl (fun i e p a b=>(hr i e p a b).1) hu za zg with⟨h1,h2⟩|⟨j,e,p,h1,h2,h3,h4,h5⟩
 ·have:(execOp a.eval o).run P w= .ok (.value ei.zero) w:=by simp[execOp,ho,zb,z1,Instr.lookup,run_underlying z8,MapKept.run_getObj_map hh,K.check w _ za,h1,zl,Result.andThen]
  rw[this];refine hK _ _ w (zi h2) (St.value z6 hk hE z7 (Fut.refl _ _ _ _) (zK _) (Q5 hd) (.pure ?_)) (fun _=>Tw.refl w);cases z<;>simp[AV.val]at hz<;>rw[←hz]
  ·exact .bool _
  ·exact .int _ _
  ·exact .str _
 ·have:(execOp a.eval o).run P w= .ok (.value e.val) w:=by simp[execOp,ho,zb,z1,Instr.lookup,run_underlying z8,MapKept.run_getObj_map hh,K.check w _ za,h1,Result.andThen]
  rw[this];exact hK _ _ w (zh j p h3 h4) (St.value z6 hk hE z7 (Fut.refl _ _ _ _) (zK _) (Q5 hd) (.pure (hr j e p h2 h3).2)) (fun _=>Tw.refl w)
theorem Td (hT:TOk P T) (hw:Wf ops S o=some true) (hd:Ef nt o=true) {t kt et:TypeId} {x ix y:Operand} (ho:o.op= .mapUpdate t x ix y) {it:TI} (ht:look T t=some it) (hit:it.desc= .map kt et)
  (K:Keyed P kt) {id:Nat} (hx:rho S.sl x=some (.mref id)) {kx:AV} (zm:rho S.sl ix=some kx) {vy:AV} (hy:rho S.sl y=some vy) (zn:vy.pure=true) {kvs:List (AV×AV)} (zf:S.hp[id]? =some (.mp kvs)) (zo:isKey P kt kx) (zp:∀p∈kvs,isKey P kt p.1)
  (zq:∀(j:Nat) (p:AV×AV),kvs[j]? =some p→p.1=kx→R (({ S with hp:=S.hp.set id (.mp (kvs.set j (kx,vy))) }:AS).putD o.dst (.tup [])))
  (zr:(∀p∈kvs,p.1≠kx)→R (({ S with hp:=S.hp.set id (.mp (kvs++[(kx,vy)])) }:AS).putD o.dst (.tup []))):Wy P nt k true ops o S R:=fun C a w K' Q hst hK=>by
 unfold OpW;rw[if_pos (hst.wanted hw)];obtain⟨I,m,zg,zc,hk,hE⟩:=hst;have zh:=hT.und ht;rw[hit]at zh;obtain⟨b,hb,_,zk⟩:=(Q7 zc hx).mref_inv;obtain⟨u,lk,hu,ze⟩:=zo;have zt:kx.pure=true:=AV.kv_pure hu;have zd:=(Q7 zc zm).toPure zt;have zb:=zd.kv hu;have z7:PVR w I u kx:=by rw[←zb];exact zd
 have hyp:=(Q7 zc hy).toPure zn;obtain⟨b',es,ck,zl,hh,zi,hr⟩:=zg.obj id _ zf;have hl:=zi.size;obtain rfl:b=b':=by rw[hb]at zl;exact Option.some.inj zl
 have z1:w.shape? b=none:=by simp[World.shape?,hh]
 have z8:∀o':Obj,w.grownBy { w with heap:=w.heap.setIfInBounds b o' } (some b):=fun o'=>⟨rfl,rfl,rfl,by simp,fun i _ hi=>by
  simp only[];rw[w_ (fun e=>hi (by rw[e]))]⟩
 have za:∀o':Obj,({ w with heap:=w.heap.setIfInBounds b o' }:World).heap[b]? =some o':=fun o'=>by have:b<w.heap.size:=(yB.1 hh).1;simp[this]
 unfold wpA;rcases Pv K hl (fun i e p a b=>(hr i e p a b).1) hu ze zp with⟨h1,h2⟩|⟨j,e,p,h1,h2,h3,h4,h5⟩
 ·have:(execOp a.eval o).run P w= .ok .skip { w with heap:=w.heap.setIfInBounds b (.map (es.push ⟨u,a.eval y,ck⟩) (ck+1)) }:=by simp[execOp,ho,zk,zb,Instr.mapUpdate,run_underlying zh,MapKept.run_getObj_map hh,K.check w _ ze,h1,MapKept.run_setObj_map _ hh,Result.andThen]
  rw[this];obtain⟨g1,g2⟩:=zg.set (o':= .mp (kvs++[(kx,vy)])) zf rfl hb (z8 (.map (es.push ⟨u,a.eval y,ck⟩) (ck+1))) (fun s hs=>by rw[z1]at hs;cases hs) (fun m' hf=>⟨b,_,_,rfl,za _,zi.push _ _ _,fun i e' p' he z6=>by
   rw[vD]at he;split at he
   ·rename_i hi;cases he;rw[zC (by omega)]at z6;have:i - kvs.length=0:=by omega
    rw[this]at z6;cases z6;exact⟨z7.mono hf.ext,hyp.mono hf.ext⟩
   ·rename_i hi;have zu:i<es.size:=(yB.1 he).1;rw[zE (by omega)]at z6;have:=hr i e' p' he z6;exact⟨this.1.mono hf.ext,this.2.mono hf.ext⟩⟩)
  exact hK _ _ _ (zr h2) (St.value zc hk hE g1 g2 (by simp) (Q5 hd) (Yt _ _ _ _)) (fun e=>by cases e)
 ·have:(execOp a.eval o).run P w= .ok .skip { w with heap:=w.heap.setIfInBounds b (.map (es.modify j fun e=>{ e with key:=u,val:=a.eval y }) ck) }:=by have zj:=K.stays w ze;simp[execOp,ho,zk,zb,Instr.mapUpdate,run_underlying zh,MapKept.run_getObj_map hh,K.check w _ ze,h1,h2,h5,zj,MapKept.run_setObj_map _ hh,Result.andThen]
  rw[this];obtain⟨g1,g2⟩:=zg.set (o':= .mp (kvs.set j (kx,vy))) zf rfl hb (z8 (.map (es.modify j fun e=>{ e with key:=u,val:=a.eval y }) ck)) (fun s hs=>by rw[z1]at hs;cases hs) (fun m' hf=>⟨b,_,_,rfl,za _,zi.modify _ _ _ _,fun i e' p' he z6=>by
   rw[wQ]at he;by_cases hij:j=i
   ·subst hij;rw[if_pos rfl,h2]at he;rw[zH (zA.1 h3).1]at z6;cases he;cases z6;exact⟨z7.mono hf.ext,hyp.mono hf.ext⟩
   ·rw[if_neg hij]at he;rw[zB hij]at z6;have:=hr i e' p' he z6;exact⟨this.1.mono hf.ext,this.2.mono hf.ext⟩⟩)
  exact hK _ _ _ (zq j p h3 h4) (St.value zc hk hE g1 g2 (by simp) (Q5 hd) (Yt _ _ _ _)) (fun e=>by cases e)
theorem Dk (hT:TOk P T) (hw:Wf ops S o=some true) (hd:Ef nt o=true) {t kt et:TypeId} {x ix y:Operand} (ho:o.op= .insert t x ix y) {it:TI} (ht:look T t=some it) (hit:it.desc= .map kt et)
  (K:Keyed P kt) {id:Nat} (hx:rho S.sl x=some (.mref id)) {kx:AV} (zm:rho S.sl ix=some kx) {vy:AV} (hy:rho S.sl y=some vy) (zn:vy.pure=true) {kvs:List (AV×AV)} (zf:S.hp[id]? =some (.mp kvs)) (zo:isKey P kt kx) (zp:∀p∈kvs,isKey P kt p.1)
  (zq:∀(j:Nat) (p:AV×AV),kvs[j]? =some p→p.1=kx→R (({ S with hp:=S.hp.set id (.mp (kvs.set j (kx,vy))) }:AS).putD o.dst (.tup [])))
  (zr:(∀p∈kvs,p.1≠kx)→R (({ S with hp:=S.hp.set id (.mp (kvs++[(kx,vy)])) }:AS).putD o.dst (.tup []))):Wy P nt k true ops o S R:=fun C a w K' Q hst hK=>by
 unfold OpW;rw[if_pos (hst.wanted hw)];obtain⟨I,m,zg,zc,hk,hE⟩:=hst;have zh:=hT.und ht;rw[hit]at zh;obtain⟨b,hb,_,zk⟩:=(Q7 zc hx).mref_inv;obtain⟨u,lk,hu,ze⟩:=zo;have zt:kx.pure=true:=AV.kv_pure hu;have zd:=(Q7 zc zm).toPure zt;have zb:=zd.kv hu;have z7:PVR w I u kx:=by rw[←zb];exact zd
 have hyp:=(Q7 zc hy).toPure zn;obtain⟨b',es,ck,zl,hh,zi,hr⟩:=zg.obj id _ zf;have hl:=zi.size;obtain rfl:b=b':=by rw[hb]at zl;exact Option.some.inj zl
 have z1:w.shape? b=none:=by simp[World.shape?,hh]
 have z8:∀o':Obj,w.grownBy { w with heap:=w.heap.setIfInBounds b o' } (some b):=fun o'=>⟨rfl,rfl,rfl,by simp,fun i _ hi=>by
  simp only[];rw[w_ (fun e=>hi (by rw[e]))]⟩
 have za:∀o':Obj,({ w with heap:=w.heap.setIfInBounds b o' }:World).heap[b]? =some o':=fun o'=>by have:b<w.heap.size:=(yB.1 hh).1;simp[this]
 unfold wpA;rcases Pv K hl (fun i e p a b=>(hr i e p a b).1) hu ze zp with⟨h1,h2⟩|⟨j,e,p,h1,h2,h3,h4,h5⟩
 ·have:(execOp a.eval o).run P w= .ok .skip { w with heap:=w.heap.setIfInBounds b (.map (es.push ⟨u,a.eval y,ck⟩) (ck+1)) }:=by simp[execOp,ho,zk,zb,Instr.mapUpdate,run_underlying zh,MapKept.run_getObj_map hh,K.check w _ ze,h1,MapKept.run_setObj_map _ hh,Result.andThen]
  rw[this];obtain⟨g1,g2⟩:=zg.set (o':= .mp (kvs++[(kx,vy)])) zf rfl hb (z8 (.map (es.push ⟨u,a.eval y,ck⟩) (ck+1))) (fun s hs=>by rw[z1]at hs;cases hs) (fun m' hf=>⟨b,_,_,rfl,za _,zi.push _ _ _,fun i e' p' he z6=>by
   rw[vD]at he;split at he
   ·rename_i hi;cases he;rw[zC (by omega)]at z6;have:i - kvs.length=0:=by omega
    rw[this]at z6;cases z6;exact⟨z7.mono hf.ext,hyp.mono hf.ext⟩
   ·rename_i hi;have zu:i<es.size:=(yB.1 he).1;rw[zE (by omega)]at z6;have:=hr i e' p' he z6;exact⟨this.1.mono hf.ext,this.2.mono hf.ext⟩⟩)
  exact hK _ _ _ (zr h2) (St.value zc hk hE g1 g2 (by simp) (Q5 hd) (Yt _ _ _ _)) (fun e=>by cases e)
 ·have:(execOp a.eval o).run P w= .ok .skip { w with heap:=w.heap.setIfInBounds b (.map (es.modify j fun e=>{ e with key:=u,val:=a.eval y }) ck) }:=by have zj:=K.stays w ze;simp[execOp,ho,zk,zb,Instr.mapUpdate,run_underlying zh,MapKept.run_getObj_map hh,K.check w _ ze,h1,h2,h5,zj,MapKept.run_setObj_map _ hh,Result.andThen]
  rw[this];obtain⟨g1,g2⟩:=zg.set (o':= .mp (kvs.set j (kx,vy))) zf rfl hb (z8 (.map (es.modify j fun e=>{ e with key:=u,val:=a.eval y }) ck)) (fun s hs=>by rw[z1]at hs;cases hs) (fun m' hf=>⟨b,_,_,rfl,za _,zi.modify _ _ _ _,fun i e' p' he z6=>by
   rw[wQ]at he;by_cases hij:j=i
   ·subst hij;rw[if_pos rfl,h2]at he;rw[zH (zA.1 h3).1]at z6;cases he;cases z6;exact⟨z7.mono hf.ext,hyp.mono hf.ext⟩
   ·rw[if_neg hij]at he;rw[zB hij]at z6;have:=hr i e' p' he z6;exact⟨this.1.mono hf.ext,this.2.mono hf.ext⟩⟩)
  exact hK _ _ _ (zq j p h3 h4) (St.value zc hk hE g1 g2 (by simp) (Q5 hd) (Yt _ _ _ _)) (fun e=>by cases e)
end
end Go.Abs
namespace Go.Abs
open Go Go.RowKit

inductive PlanM where
 |done
 |val (i:Nat) (p:PlanM)
 |one (i:Nat) (p:PlanM)
 |two (i:Nat) (p:PlanM) (j:Nat) (q:PlanM)
 |three (i:Nat) (p:PlanM) (j:Nat) (q:PlanM) (m:Nat) (r:PlanM)
 |four (i:Nat) (p:PlanM) (j:Nat) (q:PlanM) (m:Nat) (r:PlanM) (n:Nat) (s:PlanM)

def PlanM.size:PlanM→Nat
 | .done=>0
 | .val _ p=>p.size+1
 | .one _ p=>p.size+1
 | .two _ p _ _=>p.size+1
 | .three _ p _ _ _ _=>p.size+1
 | .four _ p _ _ _ _ _ _=>p.size+1

def Y5(ops:Array Oper)(cl:List (List Nat))(Wr:List Nat):PlanM→Array Bool→Bool
 | .done,l=>(Region.ready .any ops l).isEmpty
 | .val i p,l=>(match ops[i]? with
   |none=>false
   |some o=>isVal o.op && C0 ops cl Wr l i && (Region.ready .any ops l).contains i) && Y5 ops cl Wr p (l.setIfInBounds i true)
 | .one i p,l=>(ops[i]?).isSome && Region.ready .any ops l==[i] && Y5 ops cl Wr p (l.setIfInBounds i true)
 | .two i p j q,l=>(ops[i]?).isSome && (ops[j]?).isSome && Region.ready .any ops l==[i,j] && p.size==q.size && Y5 ops cl Wr p (l.setIfInBounds i true) && Y5 ops cl Wr q (l.setIfInBounds j true)
 | .three i p j q m r,l=>(ops[i]?).isSome && (ops[j]?).isSome && (ops[m]?).isSome && Region.ready .any ops l==[i,j,m] && p.size==q.size && p.size==r.size && Y5 ops cl Wr p (l.setIfInBounds i true) && Y5 ops cl Wr q (l.setIfInBounds j true) && Y5 ops cl Wr r (l.setIfInBounds m true)
 | .four i p j q m r n t,l=>(ops[i]?).isSome && (ops[j]?).isSome && (ops[m]?).isSome && (ops[n]?).isSome && Region.ready .any ops l==[i,j,m,n] && p.size==q.size && p.size==r.size && p.size==t.size && Y5 ops cl Wr p (l.setIfInBounds i true) && Y5 ops cl Wr q (l.setIfInBounds j true) && Y5 ops cl Wr r (l.setIfInBounds m true) && Y5 ops cl Wr t (l.setIfInBounds n true)

def Ur(P:Program)[Env P](T:TT)(nt k:Nat)(ops:Array Oper)(W:Nat→Bool)(Q:AS→Prop):PlanM→AS→Prop
 | .done,S=>Q S
 | .val i p,S=>stepT P T nt k ops W i (Ur P T nt k ops W Q p) S
 | .one i p,S=>Tf P T nt k ops W i (Ur P T nt k ops W Q p) S
 | .two i p j q,S=>Tf P T nt k ops W i (Ur P T nt k ops W Q p) S∧Tf P T nt k ops W j (Ur P T nt k ops W Q q) S
 | .three i p j q m r,S=>Tf P T nt k ops W i (Ur P T nt k ops W Q p) S∧Tf P T nt k ops W j (Ur P T nt k ops W Q q) S∧Tf P T nt k ops W m (Ur P T nt k ops W Q r) S
 | .four i p j q m r n t,S=>Tf P T nt k ops W i (Ur P T nt k ops W Q p) S∧Tf P T nt k ops W j (Ur P T nt k ops W Q q) S∧Tf P T nt k ops W m (Ur P T nt k ops W Q r) S∧Tf P T nt k ops W n (Ur P T nt k ops W Q t) S

section
variable {P:Program} [Env P] {T:TT} {nt k:Nat} {S:AS} {ops:Array Oper} {o:Oper} {R:AS→Prop} {Wr:List Nat}

theorem E7(hT:TOk P T){C:Cx P}(hd:Uh nt ops.toList=true)(z8:Region.noSelect ops=true):∀(p:PlanM) (listed:Array Bool) (S:AS) (a:Act) (w:World),Ia ops listed→Y5 ops (Uz ops.toList []) Wr p listed=true→Ur P T nt k ops Wr.contains R p S→St C nt k S a w→
  Kj P ops Wr (q1h C nt k R) p.size listed a w
 | .done,listed,S,a,w,_,hp,h,hs=>⟨by simpa[Y5]using hp,S,h,hs⟩
 | .val i p,listed,S,a,w,z7,hp,h,hs=>by
  unfold Y5 at hp;unfold Ur stepT at h;rw[zR]at hp;obtain⟨zg,za⟩:=hp;cases ho:ops[i]? with
  |none=>rw[ho]at h;exact h.elim
  |some o=>
   rw[ho]at h zg;simp only at h zg;have zk:Ef nt o=true:=zP.1 hd o (by simpa using vW ho);simp only[zR]at zg;obtain⟨⟨hv,hf⟩,hr⟩:=zg;have zl:Ai o.op=true:=by cases hop:o.op<;>rw[hop]at hv<;>first|rfl|exact hv|(simp[isVal]at hv)
   rw[if_pos zl]at h;have z1:i∈Region.ready .any ops listed:=by simpa using hr
   split at h
   ·rename_i S' zm;obtain⟨v,hy,z6⟩:=hs.yields hT zk hv zm;exact Dh ho (Region.noSelect_spec z8) (fun c a w hq=>hq) (fun x y=>Yq o.op=true→Tw x y) (fun w _=>Tw.refl w) (fun x y z h1 h2 hr=>(h1 hr).trans (h2 hr)) p.size listed a w
     (fun j oj hj zn zo zp=>M7 ho hf j oj hj zn zo zp) z7 z1 hy (E7 hT hd z8 p _ S' _ w (z7.set z1) za h.2 z6)
   ·exact h.elim
 | .one i p,listed,S,a,w,z7,hp,h,hs=>by
  unfold Y5 at hp;simp only[zR,beq_iff_eq]at hp;obtain⟨⟨_,z1⟩,za⟩:=hp;have zq:i∈Region.ready .any ops listed:=by rw[z1];simp
  refine⟨fun h0=>(by rw[z1]at h0;cases h0),fun j hj=> ?_⟩;rw[z1]at hj;obtain rfl:j=i:=by simpa using hj
  exact Ri hT hd h hs fun S' a' w' hR z6=>E7 hT hd z8 p _ S' a' w' (z7.set zq) za hR z6
 | .two i p j q,listed,S,a,w,z7,hp,h,hs=>by
  unfold Y5 at hp;simp only[zR,beq_iff_eq]at hp;obtain⟨⟨⟨⟨_,z1⟩,zc⟩,za⟩,zd⟩:=hp;have ze:i∈Region.ready .any ops listed:=by rw[z1];simp
  have zf:j∈Region.ready .any ops listed:=by rw[z1];simp
  refine⟨fun h0=>(by rw[z1]at h0;cases h0),fun m hm=> ?_⟩;rw[z1]at hm;rcases(by simpa using hm:m=i∨m=j)with rfl|rfl
  ·exact Ri hT hd h.1 hs fun S' a' w' hR z6=>E7 hT hd z8 p _ S' a' w' (z7.set ze) za hR z6
  ·refine Ri hT hd h.2 hs fun S' a' w' hR z6=> ?_;have:=E7 hT hd z8 q _ S' a' w' (z7.set zf) zd hR z6;rw[←zc]at this;exact this
 | .three i p j q g r,listed,S,a,w,z7,hp,h,hs=>by
  unfold Y5 at hp;simp only[zR,beq_iff_eq]at hp;obtain⟨⟨⟨⟨⟨⟨_,z1⟩,zc⟩,zb⟩,za⟩,zd⟩,zh⟩:=hp;have ze:i∈Region.ready .any ops listed:=by rw[z1];simp
  have zf:j∈Region.ready .any ops listed:=by rw[z1];simp
  have zi:g∈Region.ready .any ops listed:=by rw[z1];simp
  refine⟨fun h0=>(by rw[z1]at h0;cases h0),fun m hm=> ?_⟩;rw[z1]at hm;rcases(by simpa using hm:m=i∨m=j∨m=g)with rfl|rfl|rfl
  ·exact Ri hT hd h.1 hs fun S' a' w' hR z6=>E7 hT hd z8 p _ S' a' w' (z7.set ze) za hR z6
  ·refine Ri hT hd h.2.1 hs fun S' a' w' hR z6=> ?_;have:=E7 hT hd z8 q _ S' a' w' (z7.set zf) zd hR z6;rw[←zc]at this;exact this
  ·refine Ri hT hd h.2.2 hs fun S' a' w' hR z6=> ?_;have:=E7 hT hd z8 r _ S' a' w' (z7.set zi) zh hR z6;rw[←zb]at this;exact this
 | .four i p j q g r n t,listed,S,a,w,z7,hp,h,hs=>by
  unfold Y5 at hp;simp only[zR,beq_iff_eq]at hp;obtain⟨⟨⟨⟨⟨⟨⟨⟨_,z1⟩,zc⟩,zb⟩,zj⟩,za⟩,zd⟩,zh⟩,zr⟩:=hp;have ze:i∈Region.ready .any ops listed:=by rw[z1];simp
  have zf:j∈Region.ready .any ops listed:=by rw[z1];simp
  have zi:g∈Region.ready .any ops listed:=by rw[z1];simp
  have zt:n∈Region.ready .any ops listed:=by rw[z1];simp
  refine⟨fun h0=>(by rw[z1]at h0;cases h0),fun m hm=> ?_⟩;rw[z1]at hm;rcases(by simpa using hm:m=i∨m=j∨m=g∨m=n)with rfl|rfl|rfl|rfl
  ·exact Ri hT hd h.1 hs fun S' a' w' hR z6=>E7 hT hd z8 p _ S' a' w' (z7.set ze) za hR z6
  ·refine Ri hT hd h.2.1 hs fun S' a' w' hR z6=> ?_;have:=E7 hT hd z8 q _ S' a' w' (z7.set zf) zd hR z6;rw[←zc]at this;exact this
  ·refine Ri hT hd h.2.2.1 hs fun S' a' w' hR z6=> ?_;have:=E7 hT hd z8 r _ S' a' w' (z7.set zi) zh hR z6;rw[←zb]at this;exact this
  ·refine Ri hT hd h.2.2.2 hs fun S' a' w' hR z6=> ?_;have:=E7 hT hd z8 t _ S' a' w' (z7.set zt) zr hR z6;rw[←zj]at this;exact this

theorem G7 (hT:TOk P T) (hm:P.follows .mixedOrders=true) {Q:Exit→AS→Prop} {id:Nat} {l:List Oper} (Wr:List Nat) (p:PlanM) (hd:Uh nt l=true)
  (hp:(Region.noSelect l.toArray && p.size==l.length && Y5 l.toArray (Uz l []) Wr p (vV l.length false))=true)
  (h:Ur P T nt k l.toArray Wr.contains (Q .normal) p S):AWP P nt k (.region id l.toArray true) Q S:=fun C a w hs=>by
 simp only[zR,beq_iff_eq]at hp;obtain⟨⟨h1,h2⟩,h3⟩:=hp;refine L9 (wpIn_region_any hm (S8 (Wr:=Wr) _ _ _ _ ?_));have z8:St C nt k S a { w with drawn:=w.drawn+1 }:=by
  obtain⟨I,m,hw,z1,hk,hE⟩:=hs;have hb:Below w.heap.size w { w with drawn:=w.drawn+1 }:=⟨rfl,rfl,rfl,zK _,fun _ _=>rfl⟩
  obtain⟨g1,g2⟩:=hw.step hb (fun _ h=>h) (fun b z6=>⟨(hw.iw b z6).1,.inl z6⟩);exact⟨I,m,g1,⟨z1.1,z1.2.1,fun t x hx=>by obtain⟨v,hv,hr⟩:=z1.2.2 t x hx;exact⟨v,hv,hr.mono g2 (zK _)⟩⟩,hk,hE.trans hk g2⟩
 have:=E7 hT (C:=C) (nt:=nt) (k:=k) (R:=Q .normal) (by simpa using hd) h1 p (vV l.length false) S a _ (fun j o ho hj=>by
  have z7:=(yB.1 ho).1;simp at z7;simp[z7]at hj) (by simpa using h3) h z8
 rw[h2]at this;simpa using this

theorem Wy.mono{wr:Bool}{R':AS→Prop}(h:Wy P nt k wr ops o S R)(hr:∀S,R S→R' S):Wy P nt k wr ops o S R':=
 fun C a w K Q hs hK=>h C a w K Q hs fun S' a' w' hR=>hK S' a' w' (hr S' hR)
theorem z0r{W:Nat→Bool}{i:Nat}{R':AS→Prop}(hr:∀S,R S→R' S)(h:stepT P T nt k ops W i R S):stepT P T nt k ops W i R' S:=by
 unfold stepT at h ⊢;split at h
 ·exact h
 ·split at h
  ·rename_i z1;rw[if_pos z1];split at h
   ·exact⟨h.1,hr _ h.2⟩
   ·exact h
  ·rename_i z1;rw[if_neg z1];exact h.mono hr
theorem Em{W:Nat→Bool}{i:Nat}{R':AS→Prop}(hr:∀S,R S→R' S)(h:Tf P T nt k ops W i R S):Tf P T nt k ops W i R' S:=by
 unfold Tf at h ⊢;split at h
 ·exact h
 ·split at h
  ·rename_i z1;rw[if_pos z1];split at h
   ·exact⟨h.1,hr _ h.2⟩
   ·exact h.mono hr
  ·rename_i z1;rw[if_neg z1];exact h.mono hr
theorem Er{W:Nat→Bool}{Q Q':AS→Prop}(hq:∀S,Q S→Q' S):∀(p:PlanM) (S:AS),Ur P T nt k ops W Q p S→Ur P T nt k ops W Q' p S
 | .done,S,h=>hq S h
 | .val i p,S,h=>z0r (fun S=>Er hq p S) h
 | .one i p,S,h=>Em (fun S=>Er hq p S) h
 | .two i p j q,S,h=>⟨Em (fun S=>Er hq p S) h.1,Em (fun S=>Er hq q S) h.2⟩
 | .three i p j q m r,S,h=>⟨Em (fun S=>Er hq p S) h.1,Em (fun S=>Er hq q S) h.2.1,Em (fun S=>Er hq r S) h.2.2⟩
 | .four i p j q m r n t,S,h=>⟨Em (fun S=>Er hq p S) h.1,Em (fun S=>Er hq q S) h.2.1,Em (fun S=>Er hq r S) h.2.2.1,Em (fun S=>Er hq t S) h.2.2.2⟩
def x2n(P:Program)[Env P](nt k:Nat)(S S':AS):Prop:=∀(C:Cx P) (a:Act) (w:World),St C nt k S a w→St C nt k S' a w
end
attribute [simp] Ur AV.nrm AV.nrm1
end Go.Abs
namespace Go.Abs
open Go Go.RowKit
section
variable {P:Program} [Env P] {T:TT} {nt k:Nat} {S:AS} {ops:Array Oper} {o:Oper} {R:AS→Prop}
theorem d06(z:Array Value)(n p j:Nat)(hp:p<n)(hj:j<z.size):(madeCells z (n * z.size))[p * z.size+j]? =z[j]? :=by
 have z1:p * z.size+j<n * z.size:=by have:(p+1) * z.size≤n * z.size:=zS _ hp;rw[zX]at this;omega
 unfold madeCells;rw[Array.getElem?_map];simp only[Array.getElem?_range,z1];simp only[if_true,wB];rw[Nat.mul_comm p,Nat.mul_add_mod,tl hj];simp[hj]
theorem Ep (hT:TOk P T) {wr:Bool} (hw:Wf ops S o=some true) (hd:Ef nt o=true) {t e:TypeId} {l c:Operand} (ho:o.op= .makeSlice t l c) {it ei:TI} (ht:look T t=some it) (hit:it.desc= .slice e) (he:look T e=some ei)
  (hz:ei.zero.cells.size=ei.size) {kl kc:IntKind} {n:Nat} (hl:rho S.sl l=some (.int kl n)) (hc:rho S.sl c=some (.int kc n)) (hb:ei.bytes * n≤281474976710656) (hn:n≤maxLen) (z:AV) (zb:z.cells=ei.zeros)
  (hR:R (({ S with hp:=S.hp++[.arr e ei.size (zT n z)] }:AS).putD o.dst (.sl S.hp.length ei.size 0 n))):Wy P nt k wr ops o S R:=fun C a w K Q hst hK=>by
 unfold OpW;rw[if_pos (hst.wanted hw)];obtain⟨I,m,zg,z6,zh,hE⟩:=hst;have zc:=hT.und ht;rw[hit]at zc;obtain⟨i,hi,i1,i2,i3⟩:=hT.info he;have zi:=(Q7 z6 hl).int_inv;have zj:=(Q7 z6 hc).int_inv;have zk:(n:Int)≤9223372036854775807:=by unfold maxLen at hn;omega
 have zl:(i.bytes:Int) * (n:Int)≤281474976710656:=by
  have h:((i.bytes * n:Nat):Int)≤281474976710656:=by rw[i3];omega
  rwa [tx]at h
 have z1:=run_make (P:=P) w t e i ei.zero zc hi i1 kl kc n n (by omega) (Int.le_refl _) zl zk;simp only[Int.toNat_natCast]at z1;rw[i2,←hz]at z1;obtain⟨cs,z7⟩:∃cs,madeCells ei.zero.cells (n * ei.zero.cells.size)=cs:=⟨_,rfl⟩
 have zd:cs.size=n * ei.size:=by rw[←z7,←hz];simp[madeCells]
 have z8:∀p j,p<n→j<ei.size→cs[p * ei.size+j]? =ei.zero.cells[j]? :=fun p j hp hj=>by rw[←z7,←hz];exact d06 _ _ _ _ hp (by omega)
 rw[z7]at z1;have za:(execOp a.eval o).run P w= .ok (.value (.slice (some ⟨w.heap.size,0,none⟩) n n)) (w.alloc (.cells cs e)):=by simp[execOp,ho,zi,zj,z1]
 have ze:Below w.heap.size w (w.alloc (.cells cs e)):=(Below.refl _ _).alloc (zK _) _;have zf:z.cells.length=ei.size:=by rw[zb,TI.zeros,zV,xX,hz]
 obtain⟨g1,g2⟩:=zg.push ze (some w.heap.size) (fun b e=>by injection e with e;subst e;simp) (.arr e ei.size (zT n z)) (fun m' hf hm=> .inr ⟨w.heap.size,n,cs,rfl,heap_alloc_new w _,by simp,hn,zd,
  fun y hy=>by rw[wV hy];exact zf,fun p y hp j v hv=>by
   rw[vw]at hp;split at hp
   ·rename_i zm;obtain rfl:=Option.some.inj hp;have hj:j<ei.size:=by rw[←zf];exact(zA.1 hv).1
    rw[zb,TI.zeros,zQ]at hv;obtain⟨u,hu,rfl⟩:=zN.1 hv;rw[xH]at hu;exact⟨u,by rw[z8 p j zm hj];exact hu,Y2 u⟩
   ·cases hp⟩)
 unfold wpA;rw[za];refine hK _ _ _ hR (St.value z6 zh hE g1 g2 (by simp) (Q5 hd) ?_) (fun _=>Tw.of_below ze);have:=VR.sl (w:=w.alloc (.cells cs e)) (I:=I) (m:=upd m S.hp.length (some w.heap.size)) (n:=S.hp.length+1) S.hp.length ei.size 0 n n w.heap.size e (by omega) (Wn _ _ _)
  (by have:=heap_alloc_new w (.cells cs e);simp only[World.shape?,this,xF];rw[zd]) (zK _) (by omega)
 simpa using this
end
end Go.Abs
namespace Go.Abs
open Go Go.RowKit
section
variable {P:Program} [Env P] {nt k:Nat} {Q:Exit→AS→Prop}
theorem E3 {c:Code} {sl:List (Nat×AV)} {H:List AObj} (i j e sz:Nat) {xs:List AV} (hi:H[i]? =some (.vars xs)) (hj:xs[j]? =some .nils)
  (h:AWP P nt k c Q ⟨sl,(H++[AObj.arr e sz []]).set i (.vars (xs.set j (.sl H.length sz 0 0)))⟩):AWP P nt k c Q ⟨sl,H⟩:=fun C a w hs=>by
 obtain⟨I,m,hw,z1,hk,hf⟩:=hs;obtain⟨g1,g2⟩:=hw.push (Below.refl _ _) none (fun b e=>by cases e) (.arr e sz []) (fun m' _ _=> .inl ⟨rfl,rfl⟩);have z8:i<H.length:=(zA.1 hi).1;have z6:(H++[AObj.arr e sz []])[i]? =some (.vars xs):=by rw[zE z8];exact hi
 obtain⟨b,t,vs,hb,hh,za,hr⟩:=g1.obj i _ z6;obtain⟨g3,g4⟩:=g1.set (w':=w) (o':= .vars (xs.set j (.sl H.length sz 0 0))) z6 rfl hb (World.grownBy.refl _ _) (fun _ h=>h) (fun m' z7=>⟨b,t,vs,rfl,hh,by simp[za],fun q v x hv hx=>by
  by_cases hq:j=q
  ·subst hq;rw[zH (zA.1 hj).1]at hx;cases hx;have:=(hr j v _ hv hj).nils_inv;subst this;exact .slnone H.length sz (by simp) (by rw[z7.ids _ (by simp)];exact Wn ..)
  ·rw[zB hq]at hx;exact(hr q v x hv hx).mono z7 (zK _)⟩)
 have hlen:((H++[AObj.arr e sz []]).set i (.vars (xs.set j (.sl H.length sz 0 0)))).length=H.length+1:=by simp
 refine h C a w ⟨I,upd m H.length none,g3,⟨z1.1,z1.2.1,fun s x hx=> ?_⟩,by simp at hk ⊢;omega,hf.trans hk g2⟩;obtain⟨v,hv,zb⟩:=z1.2.2 s x hx;refine⟨v,hv,?_⟩;have:=zb.mono (n':=H.length+1) g2 (by simp);rw[hlen];exact this
theorem St.freeze1{C:Cx P}{a:Act}{w:World}{sl:List (Nat×AV)}{H:List AObj}(hs:St C nt k ⟨sl,H⟩ a w)(i:Nat){e c:Nat}{xs:List AV}(hi:H[i]? =some (.arr e c xs)):
  St C nt k ⟨sl.map fun p=>(p.1,p.2.fz i c xs),H.set i .dead⟩ a w:=by
 obtain⟨I,m,hw,z7,hk,hf⟩:=hs;have z8:Ext w w I (fun b=>I b∨m i=some b):=⟨fun _ h=> .inl h,fun _ _=>rfl⟩
 have z6:Fut H.length w I m w (fun b=>I b∨m i=some b) m:=⟨z8,fun _ _=>rfl,fun _ _ h=>h⟩
 have hlen:(H.set i .dead).length=H.length:=by simp
 have z1:∀(id:Nat) (o:AObj),(H.set i .dead)[id]? =some o→o.live=true→id≠i∧H[id]? =some o:=fun id o ho hl=>by
  by_cases hid:id=i
  ·subst hid;rw[zH (zA.1 hi).1]at ho;cases ho;simp[AObj.live]at hl
  ·rw[zB (by omega)]at ho;exact⟨hid,ho⟩
 refine⟨fun b=>I b∨m i=some b,m,⟨hw.below,fun b hb=> .inl (hw.i0 b hb),fun b hb=> ?_,fun id o ho=> ?_,fun id o b ho hl hm=> ?_,fun a b oa ob d ha hb la lb ma mb=> ?_⟩,⟨z7.1,z7.2.1,fun t x hx=> ?_⟩,by rw[hlen];exact hk,hf.trans hk z6⟩
 ·rcases hb with hb|hb
  ·exact hw.iw b hb
  ·have:=hw.own i _ b hi rfl hb;exact⟨this.2.2,.inr this.1⟩
 ·rw[hlen];by_cases hid:id=i
  ·subst hid;rw[zH (zA.1 hi).1]at ho;cases ho;trivial
  ·rw[zB (by omega)]at ho;exact Uy.mono (hw.obj id o ho) z6 (zK _) (fun _ _ _=>rfl)
 ·obtain⟨zb,za⟩:=z1 id o ho hl;have h1:=hw.own id o b za hl hm;refine⟨h1.1,fun hc=> ?_,h1.2.2⟩;rcases hc with hc|hc
  ·exact h1.2.1 hc
  ·exact zb (hw.inj id i o _ b za hi hl rfl hm hc)
 ·obtain⟨_,zc⟩:=z1 a oa ha la;obtain⟨_,zd⟩:=z1 b ob hb lb;exact hw.inj a b oa ob d zc zd la lb ma mb
 ·rw[hlen];have:=Sk hx;obtain⟨y,hy,rfl⟩:=this;obtain⟨v,hv,hr⟩:=z7.2.2 t y hy;exact⟨v,hv,hr.fz hw hi⟩
theorem Ev{cd:Code}{sl:List (Nat×AV)}{H:List AObj}(i:Nat){e c:Nat}{xs:List AV}(hi:H[i]? =some (.arr e c xs))(h:AWP P nt k cd Q ⟨sl.map fun p=>(p.1,p.2.fz i c xs),H.set i .dead⟩):AWP P nt k cd Q ⟨sl,H⟩:=
 fun C a w hs=>h C a w (hs.freeze1 i hi)
theorem Wj{wr:Bool}{ops:Array Oper}{o:Oper}{R:AS→Prop}{sl:List (Nat×AV)}{H:List AObj}(i:Nat){e c:Nat}{xs:List AV}(hi:H[i]? =some (.arr e c xs))(h:Wy P nt k wr ops o ⟨sl.map fun p=>(p.1,p.2.fz i c xs),H.set i .dead⟩ R):Wy P nt k wr ops o ⟨sl,H⟩ R:=
 fun C a w K Q hs=>h C a w K Q (hs.freeze1 i hi)
theorem St.freezeC{C:Cx P}{a:Act}{w:World}{sl:List (Nat×AV)}{H:List AObj}(hs:St C nt k ⟨sl,H⟩ a w)(i:Nat){e c:Nat}{xs:List AV}(hi:H[i]? =some (.arr e c xs))(t:Nat){cs:List AV}(ht:H[t]? =some (.vars cs)):
  St C nt k ⟨sl.map fun p=>(p.1,p.2.fz i c xs),(H.set i .dead).set t (.vars (cs.map fun x=>x.fz i c xs))⟩ a w:=by
 obtain⟨I,m,hw,z7,hk,hf⟩:=hs;have za:t≠i:=fun h=>by rw[h,hi]at ht;cases ht
 have zc:t<H.length:=(zA.1 ht).1;have z8:Ext w w I (fun b=>I b∨m i=some b):=⟨fun _ h=> .inl h,fun _ _=>rfl⟩
 have z6:Fut H.length w I m w (fun b=>I b∨m i=some b) m:=⟨z8,fun _ _=>rfl,fun _ _ h=>h⟩
 have hlen:((H.set i .dead).set t (.vars (cs.map fun x=>x.fz i c xs))).length=H.length:=by simp
 have z1:∀(id:Nat) (o:AObj),((H.set i .dead).set t (.vars (cs.map fun x=>x.fz i c xs)))[id]? =some o→o.live=true→id≠i∧∃o',H[id]? =some o'∧o'.live=true:=fun id o ho hl=>by
  by_cases hid:id=i
  ·subst hid;rw[zB za,zH (zA.1 hi).1]at ho;cases ho;simp[AObj.live]at hl
  ·by_cases hit:id=t
   ·subst hit;exact⟨hid,_,ht,rfl⟩
   ·rw[zB (by omega),zB (by omega)]at ho;exact⟨hid,_,ho,hl⟩
 refine⟨fun b=>I b∨m i=some b,m,⟨hw.below,fun b hb=> .inl (hw.i0 b hb),fun b hb=> ?_,fun id o ho=> ?_,fun id o b ho hl hm=> ?_,fun a b oa ob d ha hb la lb ma mb=> ?_⟩,⟨z7.1,z7.2.1,fun t x hx=> ?_⟩,by rw[hlen];exact hk,hf.trans hk z6⟩
 ·rcases hb with hb|hb
  ·exact hw.iw b hb
  ·have:=hw.own i _ b hi rfl hb;exact⟨this.2.2,.inr this.1⟩
 ·rw[hlen];by_cases hid:id=i
  ·subst hid;rw[zB za,zH (zA.1 hi).1]at ho;cases ho;trivial
  ·by_cases hit:id=t
   ·subst hit;rw[zH (by simpa using zc)]at ho;cases ho;exact(hw.obj id _ ht).fz hw hi
   rw[zB (by omega),zB (by omega)]at ho;exact Uy.mono (hw.obj id o ho) z6 (zK _) (fun _ _ _=>rfl)
 ·obtain⟨zd,o',zb,hl'⟩:=z1 id o ho hl;have h1:=hw.own id o' b zb hl' hm;refine⟨h1.1,fun hc=> ?_,h1.2.2⟩;rcases hc with hc|hc
  ·exact h1.2.1 hc
  ·exact zd (hw.inj id i o' _ b zb hi hl' rfl hm hc)
 ·obtain⟨_,ze,zf,zg⟩:=z1 a oa ha la;obtain⟨_,zh,zi,zj⟩:=z1 b ob hb lb;exact hw.inj a b ze zh d zf zi zg zj ma mb
 ·rw[hlen];have:=Sk hx;obtain⟨y,hy,rfl⟩:=this;obtain⟨v,hv,hr⟩:=z7.2.2 t y hy;exact⟨v,hv,hr.fz hw hi⟩
theorem Wu{cd:Code}{sl:List (Nat×AV)}{H:List AObj}(i:Nat){e c:Nat}{xs:List AV}(hi:H[i]? =some (.arr e c xs))(t:Nat){cs:List AV}(ht:H[t]? =some (.vars cs))(h:AWP P nt k cd Q ⟨sl.map fun p=>(p.1,p.2.fz i c xs),(H.set i .dead).set t (.vars (cs.map fun x=>x.fz i c xs))⟩):AWP P nt k cd Q ⟨sl,H⟩:=
 fun C a w hs=>h C a w (hs.freezeC i hi t ht)
end
end Go.Abs
namespace Go.Abs
open Go Go.RowKit
theorem Vp(x:AV):x.nrm.cells.length=x.cells.length∧∀(j:Nat) (y':AV),x.nrm.cells[j]? =some y'→∃y,x.cells[j]? =some y∧∀(w:World) (I:Nat→Prop) (v:Value),PVR w I v y→PVR w I v y':=by
 cases x with
 |agg cs=>refine⟨by simp[AV.nrm,AV.cells],fun j y' h=> ?_⟩;simp only[AV.nrm,AV.cells,zQ]at h;obtain⟨y,hy,rfl⟩:=zN.1 h;exact⟨y,hy,fun w I v h=>h.nrm1⟩
 |nils=>
  refine⟨rfl,fun j y' h=> ?_⟩;cases j with
  |zero=>cases h;exact⟨.nils,rfl,fun w I v h=>h.nrm1⟩
  |succ j=>cases h
 |fn f xs ys=>
  refine⟨rfl,fun j y' h=> ?_⟩;cases j with
  |zero=>cases h;exact⟨.fn f xs ys,rfl,fun w I v h=>h.nrm⟩
  |succ j=>cases h
 |_=>exact⟨rfl,fun j y' h=>⟨y',h,fun w I v h=>h⟩⟩
def AV.nrmL:AV→AV
 | .list xs=> .list (xs.map AV.nrm)
 |x=>x
section
variable {P:Program} [Env P] {nt k:Nat} {Q:Exit→AS→Prop}
end
attribute [simp] AV.nrmL
end Go.Abs
namespace Go.Abs
open Go Go.RowKit
section
variable {P:Program} [Env P] {T:TT} {nt k:Nat} {S:AS} {ops:Array Oper} {o:Oper} {R:AS→Prop}
section
variable {W0 w w':World} {I0 I:Nat→Prop} {m:Nat→Option Nat} {H:List AObj}

def Lp(H:List AObj):AV→Option (List AV)
 | .list ys=>some ys
 | .sl id c lo len=>match H[id]? with
  |some (.arr _ c' xs)=>if c=c'∧lo+len≤xs.length then some ((xs.drop lo).take len)else none
  |some (.va _ c' xs)=>if c=c'∧lo+len≤xs.length then some ((xs.drop lo).take len)else none
  |_=>none
 | .nils=>some []
 |_=>none

theorem N2(hw:WS W0 I0 w I m H){v:Value}{x:AV}{ys:List AV}(hv:VR w I m H.length v x)(h:Lp H x=some ys):
  ∃(ao:Option Addr) (cap:Nat) (u:Nat→Nat→Value),v= .slice ao ys.length cap∧
   (0<ys.length→∃ad,ao=some ad∧∃c,(∀y∈ys,y.cells.length=c)∧∀i j,i<ys.length→j<c→w.cell? (ad.add (i * c+j))=some (u i j))∧
   (∀(i:Nat) (x:AV),ys[i]? =some x→∀(j:Nat) (y:AV),x.cells[j]? =some y→VR w I m H.length (u i j) y):=by
 cases x with
 |list zs=>simp only[Lp,Option.some.injEq]at h;subst h;obtain⟨a,cap,c,u,rfl,_,_,hc,ha,hu⟩:=hv.list_inv.list_inv;exact⟨a,cap,u,rfl,fun h0=>by obtain⟨ad,e,_,hcell⟩:=ha h0;exact⟨ad,e,c,hc,hcell⟩,fun i x hx j y hy=> .pure (hu i x hx j y hy)⟩
 |nils=>simp only[Lp,Option.some.injEq]at h;subst h;obtain rfl:=hv.nils_inv;exact⟨none,0,fun _ _=>undef,rfl,fun h0=>by simp at h0,fun i x hx=>by simp at hx⟩
 |sl id c lo len=>
  simp only[Lp]at h;split at h
  ·rename_i e c' xs ho;split at h
   ·rename_i hc;obtain⟨rfl,hl⟩:=hc;simp only[Option.some.injEq]at h;subst h;have hlen:((xs.drop lo).take len).length=len:=by simp;omega
    rcases hv.sl_inv with⟨b,cap,t,hb,hn,hs,hl',hmax,rfl⟩|⟨hb,hn,rfl,rfl,rfl⟩|⟨ad,hn,hlo,rfl,rfl⟩
    ·rcases hw.obj id _ ho with⟨e1,rfl⟩|⟨b',z1,vs,z6,hh,q1,q2,q3,q4,hr⟩
     ·rw[hb]at e1;cases e1
     obtain rfl:b=b':=by rw[hb]at z6;exact Option.some.inj z6
     refine⟨_,cap,fun i j=>vs.getD ((lo+i) * c+j) undef,by rw[hlen],fun _=>⟨_,rfl,c,fun x hx=>q4 x (wI (yW hx)),fun i j hi hj=> ?_⟩,fun i x hx j z hz=> ?_⟩
     ·rw[hlen]at hi;rw[Addr.add_lit,cell_of_row w b _ vs e (0,0) hh];simp only[zX];have z7:(lo+i) * c+j<vs.size:=by rw[q3];have:(lo+i+1) * c≤z1 * c:=zS c (by omega);rw[zX (lo+i)]at this;omega
      rw[zX]at z7;rw[show lo * c+(i * c+j)=lo * c+i * c+j by omega];simp[z7]
     ·rw[yZ]at hx;split at hx
      ·rw[yV]at hx;obtain⟨v,hv,hp⟩:=hr (lo+i) x hx j z hz;simp only[xZ,hv,wH];exact .pure hp
      ·cases hx
    ·exact⟨none,0,fun _ _=>undef,by rw[hlen],fun h0=>by simp at h0,fun i x hx=>by simp at hx⟩
    ·exact⟨some ad,0,fun _ _=>undef,by rw[hlen],fun h0=>by simp at h0,fun i x hx=>by simp at hx⟩
   ·cases h
  ·rename_i e c' xs ho;split at h
   ·rename_i hc;obtain⟨rfl,hl⟩:=hc;simp only[Option.some.injEq]at h;subst h;have hlen:((xs.drop lo).take len).length=len:=by simp;omega
    rcases hv.sl_inv with⟨b,cap,t,hb,hn,hs,hl',hmax,rfl⟩|⟨hb,hn,rfl,rfl,rfl⟩|⟨ad,hn,hlo,rfl,rfl⟩
    ·rcases hw.obj id _ ho with⟨e1,rfl⟩|⟨b',z1,vs,z6,hh,q1,q2,q3,q4,hr⟩
     ·rw[hb]at e1;cases e1
     obtain rfl:b=b':=by rw[hb]at z6;exact Option.some.inj z6
     refine⟨_,cap,fun i j=>vs.getD ((lo+i) * c+j) undef,by rw[hlen],fun _=>⟨_,rfl,c,fun x hx=>q4 x (wI (yW hx)),fun i j hi hj=> ?_⟩,fun i x hx j z hz=> ?_⟩
     ·rw[hlen]at hi;rw[Addr.add_lit,cell_of_row w b _ vs e (0,0) hh];simp only[zX];have z7:(lo+i) * c+j<vs.size:=by rw[q3];have:(lo+i+1) * c≤z1 * c:=zS c (by omega);rw[zX (lo+i)]at this;omega
      rw[zX]at z7;rw[show lo * c+(i * c+j)=lo * c+i * c+j by omega];simp[z7]
     ·rw[yZ]at hx;split at hx
      ·rw[yV]at hx;obtain⟨v,hv,hp⟩:=hr (lo+i) x hx j z hz;simp only[xZ,hv,wH];exact hp
      ·cases hx
    ·exact⟨none,0,fun _ _=>undef,by rw[hlen],fun h0=>by simp at h0,fun i x hx=>by simp at hx⟩
    ·exact⟨some ad,0,fun _ _=>undef,by rw[hlen],fun h0=>by simp at h0,fun i x hx=>by simp at hx⟩
   ·cases h
  ·cases h
 |_=>simp[Lp]at h
end

def Of(S:AS)(e:TypeId)(c:Nat):AV→Option (List AV×List AObj)
 | .nils=>some ([],S.hp)
 | .sl id c' 0 len=>match S.hp[id]? with
  |some (.va e' c'' xs)=>if c'=c∧c''=c∧e'=e∧len=xs.length then some (xs,S.hp.set id .dead)else none
  |_=>none
 |_=>none

theorem Zq (hT:TOk P T) (hw:Wf ops S o=some true) {s x:Operand} {t e:TypeId} (ho:o.op= .call ⟨.builtin .append,#[s,x],#[t,t]⟩) {it ei:TI} (ht:look T t=some it) (hit:it.desc= .slice e) (he:look T e=some ei)
  (hz:ei.zero.cells.size=ei.size) (y2:0<ei.size) {sv xv:AV} (hs:rho S.sl s=some sv) (hx:rho S.sl x=some xv) {xs ys:List AV} {H1:List AObj} (hb:Of S e ei.size sv=some (xs,H1)) (hy:Lp S.hp xv=some ys)
  (zw:∀y∈ys,y.cells.length=ei.size∧y.cells.all AV.leaf=true) (hbound:(xs.length+ys.length) * ei.bytes≤140737488355328) (hlen:xs.length+ys.length≤9223372036854775807) (hd:Ef nt o=true)
  (hR:R (({ S with hp:=H1++[.va e ei.size (xs++ys)] }:AS).putD o.dst (.sl S.hp.length ei.size 0 (xs.length+ys.length)))):Wy P nt k true ops o S R:=fun C a w K Q hst hK=>by
 unfold OpW;rw[if_pos (hst.wanted hw)];obtain⟨I,m,zc,zr,hk,hE⟩:=hst;obtain⟨ao,cap,u,zl,hcell,zx⟩:=N2 zc (Q7 zr hx) hy;have zy:=Q7 zr hs;obtain⟨ti,zm,tz,ts,tb⟩:=hT.info he;have zi:=hT.und ht;rw[hit]at zi;have zj:H1.length=S.hp.length:=by
  unfold Of at hb;split at hb
  ·simp only[Option.some.injEq,Prod.mk.injEq]at hb;rw[←hb.2]
  ·split at hb
   ·split at hb
    ·simp only[Option.some.injEq,Prod.mk.injEq]at hb;rw[←hb.2];simp
    ·cases hb
   ·cases hb
  ·cases hb
 -- what the run comes to decides all
 have fin:∀(v:Value) (w':World) (m':Nat→Option Nat),(Builtin.append_ #[t,t] o.type #[a.eval s,a.eval x]).run P w= .ok v w'→WS C.W0 C.I0 w' I m' (H1++[.va e ei.size (xs++ys)])→Fut S.hp.length w I m w' I m'→
   VR w' I m' (S.hp.length+1) v (.sl S.hp.length ei.size 0 (xs.length+ys.length))→wpA P o a w K Q:=fun v w' m' z6 g1 g2 g3=>by
  unfold wpA;have:(execOp a.eval o).run P w= .ok (.value v) w':=by simp[execOp,ho,resolve,invoke,builtin,z6]
  rw[this];exact hK _ _ w' hR (St.value zr hk hE g1 g2 (by simp[zj]) (Q5 hd) (by simpa[zj]using g3)) (fun e=>by cases e)
 -- nothing is appended
 have zero:ys=[]→∀(b0:Option Addr) (n0 c0:Nat),n0≤c0→a.eval s= .slice b0 n0 c0→(Builtin.append_ #[t,t] o.type #[a.eval s,a.eval x]).run P w= .ok (.slice b0 n0 c0) w:=fun z8 b0 n0 c0 hle zn=>by rw[zn,zl,z8];cases ao<;>cases b0<;>simp[Builtin.append_,run_underlying zi,sizeOf,typeInfo,zm,Builtin.lenOf,Builtin.firstCells,hle,loadCells,loadCellsFrom,storeCells]
 -- a new row
 have newrow:∀(z7:Nat) (cs:Array Value),xs.length+ys.length≤z7→z7≤maxLen→cs.size=z7 * ei.size→
   (∀(i:Nat) (z:AV),(xs++ys)[i]? =some z→z.cells.length=ei.size∧∀(j:Nat) (y:AV),z.cells[j]? =some y→∃v,cs[i * ei.size+j]? =some v∧VR w I m S.hp.length v y)→
   (Builtin.append_ #[t,t] o.type #[a.eval s,a.eval x]).run P w= .ok (.slice (some ⟨w.heap.size,0,none⟩) (xs.length+ys.length) z7) (w.drew.alloc (.cells cs e))→WS C.W0 C.I0 w I m H1→wpA P o a w K Q:=fun z7 cs h1 h2 h3 h4 z6 zo=>by
  have y3:Below w.heap.size w (w.drew.alloc (.cells cs e)):=(Below.refl _ _).drew.alloc (zK _) _;obtain⟨g1,g2⟩:=zo.push y3 (some w.heap.size) (fun b e=>by injection e with e;subst e;simp) (.va e ei.size (xs++ys)) (fun m' hf hm=> .inr ⟨w.heap.size,z7,cs,rfl,heap_alloc_new w.drew _,by simpa using h1,h2,h3,
   fun z zd=>by obtain⟨i,hi⟩:=yF.1 zd;exact(h4 i z hi).1,fun i z hi j y hy=>by obtain⟨v,q1,q2⟩:=(h4 i z hi).2 j y hy;exact⟨v,q1,q2.mono (by rw[←zj];exact hf) (by omega)⟩⟩)
  rw[zj]at g1 g2;refine fin _ _ _ z6 g1 g2 ?_;have:=VR.sl (w:=w.drew.alloc (.cells cs e)) (I:=I) (m:=upd m S.hp.length (some w.heap.size)) (n:=S.hp.length+1) S.hp.length ei.size 0 (xs.length+ys.length) z7 w.heap.size e (by omega) (Wn _ _ _)
   (by have:=heap_alloc_new w.drew (.cells cs e);simp only[World.size_drew]at this;simp only[World.shape?,this,h3,xF]) h1 (by omega)
  simpa using this
 have zg:∀y∈ys,y.cells.length=ei.size:=fun y hy=>(zw y hy).1;have news:0<ys.length→∃ad,ao=some ad∧∀(q:Nat) (v:Value),(Wb u ys.length ei.size)[q]? =some v→w.cell? (ad.add q)=some v:=fun h0=>by
  obtain⟨ad,e1,c,h1,h2⟩:=hcell h0;have hc:c=ei.size:=by rw[←h1 _ (zG h0),zg _ (zG h0)]
  subst hc;refine⟨ad,e1,fun q v hq=> ?_⟩;obtain⟨_,_,q1,q2,q3,rfl⟩:=Yw _ _ _ _ _ hq;have:=h2 _ _ q1 q2;rw[←q3]at this;exact this
 have one:∀v∈Wb u ys.length ei.size,v.oneCell'=true:=fun v hv=>by obtain⟨q,hq⟩:=yF.1 hv;obtain⟨_,_,q1,q2,q3,rfl⟩:=Yw _ _ _ _ _ hq;have y4:ys[q / ei.size]? =some ys[q / ei.size]:=zD q1;have yc:=zg _ (zG q1);have zz:(ys[q / ei.size]).cells[q % ei.size]? =some ((ys[q / ei.size]).cells[q % ei.size]'(by omega)):=zD (by omega);exact(zx _ _ y4 _ _ zz).oneCell (zP.1 (zw _ (zG q1)).2 _ (zF zz))
 have yrel:∀(i:Nat) (z:AV),ys[i]? =some z→∀(j:Nat) (y:AV),z.cells[j]? =some y→(Wb u ys.length ei.size)[i * ei.size+j]? =some (u i j)∧VR w I m S.hp.length (u i j) y:=fun i z zd j y hy=>by have hi:=(zA.1 zd).1;have hj:=(zA.1 hy).1;rw[zg z (zF zd)]at hj;exact⟨A0 _ _ _ _ _ hi hj,zx i z zd j y hy⟩
 have capw:∀zp,xs.length+ys.length≤grownCap w (xs.length+ys.length) zp e∧grownCap w (xs.length+ys.length) zp e≤maxLen:=fun zp=>
  ⟨grownCap_ge _ _ _ _,grownCap_le_maxLen w _ zp e (by unfold maxLen;omega)⟩
 have fromNone:a.eval s= .slice none 0 0→xs=[]→WS C.W0 C.I0 w I m H1→wpA P o a w K Q:=fun zn y5 zo=>by
  subst y5;rcases wP ys.length with h0|h0
  ·have z8:=xW h0;have z6:=zero z8 none 0 0 (zK _) zn;obtain⟨g1,g2⟩:=zo.push (Below.refl _ _) none (fun b e=>by cases e) (.va e ei.size ([]++ys)) (fun m' _ _=> .inl ⟨rfl,by simp[z8]⟩);rw[zj]at g1 g2;refine fin _ _ _ z6 g1 g2 ?_;rw[h0];exact .slnone _ _ (by omega) (Wn _ _ _)
  ·obtain⟨ad,rfl,za⟩:=news h0;have z6:=run_append_nil (P:=P) w t o.type e ti ei.zero zi zm tz ad ys.length cap (Wb u ys.length ei.size) (by rw[We,ts]) za h0 (by simp at hlen;omega) (by rw[tb];simp at hbound;omega);obtain⟨c1,c2⟩:=capw 0;simp only[List.length_nil,xF]at c1 c2;refine newrow (grownCap w ys.length 0 e) _ (by simpa using c1) c2 ?_ ?_ (by rw[zn,zl];simpa using z6) zo
   ·have key:∀cs:Array Value,cs.size=ei.size→((Wb u ys.length ei.size).toArray++Builtin.zeroCells cs (grownCap w ys.length 0 e - ys.length)).size=grownCap w ys.length 0 e * ei.size:=fun cs y6=>by
     simp only[wD,y_,We,size_zeroCells,y6,←zX]
     congr 1;omega
    exact key _ hz
   ·intro i z hi;simp only[List.nil_append]at hi;refine⟨zg z (zF hi),fun j y hy=> ?_⟩;obtain⟨q1,q2⟩:=yrel i z hi j y hy;exact⟨_,by rw[yH (by simpa using(zA.1 q1).1)];simpa using q1,q2⟩
 unfold Of at hb;split at hb
 ·simp only[Option.some.injEq,Prod.mk.injEq]at hb;obtain⟨rfl,rfl⟩:=hb;exact fromNone zy.nils_inv rfl zc
 ·rename_i id c' len;split at hb
  ·rename_i e' c'' z1 zq;split at hb
   ·rename_i hc;obtain⟨rfl,rfl,rfl,rfl⟩:=hc;simp only[Option.some.injEq,Prod.mk.injEq]at hb;obtain⟨rfl,rfl⟩:=hb;have zb:=zc.kill id;rcases zy.sl_inv with⟨b,cp,t',hb,hn,zt,hl',hmax,zh⟩|⟨hb,hn,_,yd,zh⟩|⟨ad,hn,hlo,_,_⟩
    ·rcases zc.obj id _ zq with⟨e1,_⟩|⟨b',y7,vs,zk,hh,q1,q2,q3,q4,hr⟩
     ·rw[hb]at e1;cases e1
     obtain rfl:b=b':=by rw[hb]at zk;exact Option.some.inj zk
     have y8:cp=y7:=by
      have:w.shape? b=some (e',vs.size):=by simp[World.shape?,hh]
      rw[this]at zt;simp only[Option.some.injEq,Prod.mk.injEq,xF,q3]at zt;exact(Nat.eq_of_mul_eq_mul_right y2 zt.2).symm
     subst y8;simp only[ul]at zh;have xrel:∀(i:Nat) (z:AV),z1[i]? =some z→∀j,j<ei.size→i * ei.size+j<z1.length * ei.size:=fun i z hi j hj=>by have:(i+1) * ei.size≤z1.length * ei.size:=zS _ (zA.1 hi).1;rw[zX]at this;omega
     have y9:z1.length * ei.size≤vs.size:=by rw[q3];exact zS _ q1
     have y0:∀(w':World),w'.shape? b=some (e',cp * ei.size)→z1.length+ys.length≤cp→VR w' I (upd m S.hp.length (some b)) (S.hp.length+1) (.slice (some ⟨b,0,none⟩) (z1.length+ys.length) cp) (.sl S.hp.length ei.size 0 (z1.length+ys.length)):=fun w' ya hle=>by have:=VR.sl (w:=w') (I:=I) (m:=upd m S.hp.length (some b)) (n:=S.hp.length+1) S.hp.length ei.size 0 (z1.length+ys.length) cp b e' (by omega) (Wn _ _ _) (by simpa using ya) hle (by omega);simpa using this
     rcases wP ys.length with h0|h0
     ·have z8:=xW h0;have z6:=zero z8 _ _ _ hl' zh;obtain⟨g1,g2⟩:=zc.adopt (w':=w) (o':= .va e' ei.size (z1++ys)) zq rfl hb (World.grownBy.refl _ _) (fun _ h=>h) (fun m' hf=> .inr ⟨b,cp,vs,rfl,hh,by simp[z8,q1],q2,q3,by simpa[z8]using q4,fun i z hi j y hy=>by obtain⟨v,p1,p2⟩:=hr i z (by simpa[z8]using hi) j y hy;exact⟨v,p1,p2.mono hf (vQ _)⟩⟩);refine fin _ _ _ z6 g1 g2 ?_;have:=y0 w (by simp[World.shape?,hh,q3]) (by omega);rw[h0]at this ⊢;exact this
     ·obtain⟨ad,rfl,za⟩:=news h0;by_cases hroom:z1.length+ys.length≤cp
      ·have ze:z1.length * ti.size+(Wb u ys.length ei.size).length≤vs.size:=by rw[We,ts,q3,←zX];exact zS _ hroom
       have z6:=run_append_room (P:=P) w t o.type e' ti zi zm b z1.length cp vs hh ad ys.length cap (Wb u ys.length ei.size) (by rw[We,ts]) za one hroom ze;rw[ts]at z6 ze;have zu:(vs.toList.take (z1.length * ei.size)++Wb u ys.length ei.size++vs.toList.drop (z1.length * ei.size+(Wb u ys.length ei.size).length)).toArray=spl vs (z1.length * ei.size) (Wb u ys.length ei.size).toArray:=by simp[spl]
       rw[zu]at z6;have y1:z1.length * ei.size+(Wb u ys.length ei.size).toArray.size≤vs.size:=by simpa using ze
       have zf:=Yu vs (z1.length * ei.size) (Wb u ys.length ei.size).toArray y1;obtain⟨g1,g2⟩:=zc.adopt (o':= .va e' ei.size (z1++ys)) zq rfl hb (Rt w b (spl vs (z1.length * ei.size) (Wb u ys.length ei.size).toArray)) (Tn hh zf)
        (fun m' hf=> .inr ⟨b,cp,_,rfl,setRow_heap w b vs _ e' _ hh,by simpa using hroom,q2,by rw[zf,q3],fun z zd=>by
          rcases zO.1 zd with h1|h1
          ·exact q4 z h1
          ·exact zg z h1,fun i z hi j y hy=>by
          rw[Gx _ _ _ _ y1];by_cases hix:i<z1.length
          ·rw[zE hix]at hi;have hj:j<ei.size:=by have:=(zA.1 hy).1;rw[q4 z (zF hi)]at this;exact this
           have:=xrel i z hi j hj;rw[if_neg (by omega)];obtain⟨v,p1,p2⟩:=hr i z hi j y hy;exact⟨v,p1,p2.mono hf (vQ _)⟩
          ·rw[zC (by omega)]at hi;obtain⟨p1,p2⟩:=yrel _ z hi j y hy;have p3:=(zA.1 p1).1;have p4:i * ei.size=z1.length * ei.size+(i - z1.length) * ei.size:=by rw[←zX];congr 1;omega
           rw[if_pos (by simp only[y_];omega)];exact⟨_,by rw[show i * ei.size+j - z1.length * ei.size=(i - z1.length) * ei.size+j by omega];simpa using p1,p2.mono hf (vQ _)⟩⟩)
       refine fin _ _ _ (by rw[zh,zl];exact z6) g1 g2 (y0 _ ?_ hroom);simp[World.shape?,setRow_heap w b vs _ e' _ hh,zf,q3]
      ·have holds:∀(j:Nat) (v:Value),(vs.toList.take (z1.length * ei.size))[j]? =some v→w.cell? ((⟨b,0,none⟩:Addr).add j)=some v:=fun j v hj=>by
        rw[Addr.add_lit,xF,cell_of_row w b j vs e' (0,0) hh];rw[yZ]at hj;split at hj
        ·simpa using hj
        ·cases hj
       have z6:=run_append_grow (P:=P) w t o.type e' ti ei.zero zi zm tz ⟨b,0,none⟩ z1.length cp (vs.toList.take (z1.length * ei.size)) (by rw[ts];simp;omega) holds ad ys.length cap (Wb u ys.length ei.size) (by rw[We,ts]) za (by omega) (by omega)
        (growslice_fits (by omega) (by rw[tb];exact hbound))
       obtain⟨c1,c2⟩:=capw cp;refine newrow _ _ c1 c2 ?_ ?_ (by rw[zh,zl];exact z6) zb
       ·have:(vs.toList.take (z1.length * ei.size)).length=z1.length * ei.size:=by simp;omega
        simp only[wD,y_,We,size_zeroCells,hz,this,←zX]
        congr 1;omega
       ·intro i z hi;have zv:(vs.toList.take (z1.length * ei.size)).length=z1.length * ei.size:=by simp;omega
        by_cases hix:i<z1.length
        ·rw[zE hix]at hi;refine⟨q4 z (zF hi),fun j y hy=> ?_⟩;have hj:j<ei.size:=by have:=(zA.1 hy).1;rw[q4 z (zF hi)]at this;exact this
         have yb:=xrel i z hi j hj;obtain⟨v,p1,p2⟩:=hr i z hi j y hy;refine⟨v,?_,p2⟩;rw[yH (by simp;omega),yH (by simp;omega),List.getElem?_toArray,yZ,if_pos yb];simpa using p1
        ·rw[zC (by omega)]at hi;refine⟨zg z (zF hi),fun j y hy=> ?_⟩;obtain⟨p1,p2⟩:=yrel _ z hi j y hy;have p3:=(zA.1 p1).1;have p4:i * ei.size=z1.length * ei.size+(i - z1.length) * ei.size:=by rw[←zX];congr 1;omega
         refine⟨_,?_,p2⟩;rw[yH (by simp only[wD,y_,zv];omega),vF (by simp only[y_,zv];omega)];simp only[y_,zv];rw[show i * ei.size+j - z1.length * ei.size=(i - z1.length) * ei.size+j by omega];simpa using p1
    ·rcases zc.obj id _ zq with⟨_,e1⟩|⟨b',_,_,zk,_⟩
     ·exact fromNone zh e1 zb
     ·rw[hb]at zk;cases zk
    ·omega
   ·cases hb
  ·cases hb
 ·cases hb


end
end Go.Abs
namespace Go.Abs
open Go Go.RowKit
section
variable {P:Program} [Env P] {T:TT} {nt k:Nat} {S:AS} {ops:Array Oper} {o:Oper} {R:AS→Prop}

theorem Ja (hT:TOk P T) (hw:Wf ops S o=some true) {s x:Operand} {t e:TypeId} (ho:o.op= .call ⟨.builtin .append,#[s,x],#[t,t]⟩) {it ei:TI} (ht:look T t=some it) (hit:it.desc= .slice e) (he:look T e=some ei)
  (hz:ei.zero.cells.size=ei.size) (z1:0<ei.size) (z6:0<ei.bytes) {sv xv:AV} (hs:rho S.sl s=some sv) (hx:rho S.sl x=some xv) (hd:Ef nt o=true)
  (hR:match Of S e ei.size sv,Lp S.hp xv with
   |some (xs,H1),some ys=>W4 ei xs ys∧R (({ S with hp:=H1++[.va e ei.size (xs++ys)] }:AS).putD o.dst (.sl S.hp.length ei.size 0 (xs.length+ys.length)))
   |_,_=>False):Wy P nt k true ops o S R:=by
 cases hb:Of S e ei.size sv with
 |none=>rw[hb]at hR;exact hR.elim
 |some p=>
  obtain⟨xs,H1⟩:=p;cases hy:Lp S.hp xv with
  |none=>rw[hb,hy]at hR;exact hR.elim
  |some ys=>rw[hb,hy]at hR;obtain⟨⟨h1,h2⟩,h3⟩:=hR;refine Zq hT hw ho ht hit he hz z1 hs hx hb hy h1 h2 ?_ hd h3;have:=Nat.le_mul_of_pos_right (xs.length+ys.length) z6;omega
theorem WS.swap{W0 w:World}{I0 I:Nat→Prop}{m:Nat→Option Nat}{H:List AObj}(h:WS W0 I0 w I m H){i:Nat}{o o':AObj}(hi:H[i]? =some o)(hl:o.live=true)(hO:Uy w I m H.length (m i) o'):WS W0 I0 w I m (H.set i o'):=by
 have z6:∀(k:Nat) (p:AObj),(H.set i o')[k]? =some p→(k=i∧p=o')∨(k≠i∧H[k]? =some p):=fun k p hp=>by
  by_cases hk:k=i
  ·subst hk;rw[zH (zA.1 hi).1]at hp;exact .inl ⟨rfl,(Option.some.inj hp).symm⟩
  ·rw[zB (by omega)]at hp;exact .inr ⟨hk,hp⟩
 have z1:∀(k:Nat) (p:AObj),(H.set i o')[k]? =some p→p.live=true→∃q,H[k]? =some q∧q.live=true:=fun k p hp lp=>by
  rcases z6 k p hp with⟨rfl,rfl⟩|⟨_,h2⟩
  ·exact⟨o,hi,hl⟩
  ·exact⟨p,h2,lp⟩
 refine⟨h.below,h.i0,h.iw,fun k p hp=> ?_,fun k p c hp lp mc=> ?_,fun a b oa ob c ha hb la lb ma mb=> ?_⟩
 ·rw[List.length_set];rcases z6 k p hp with⟨rfl,rfl⟩|⟨_,h2⟩
  ·exact hO
  ·exact h.obj k p h2
 ·obtain⟨q,hq,lq⟩:=z1 k p hp lp;exact h.own k q c hq lq mc
 ·obtain⟨qa,h1,h2⟩:=z1 a oa ha la;obtain⟨qb,h3,h4⟩:=z1 b ob hb lb;exact h.inj a b qa qb c h1 h3 h2 h4 ma mb
variable {Q:Exit→AS→Prop}
theorem St.swap{C:Cx P}{a:Act}{w:World}{sl:List (Nat×AV)}{H:List AObj}(hs:St C nt k ⟨sl,H⟩ a w){i:Nat}{o o':AObj}(hi:H[i]? =some o)(hl:o.live=true)(hO:∀I m,Uy w I m H.length (m i) o→Uy w I m H.length (m i) o'):
  St C nt k ⟨sl,H.set i o'⟩ a w:=by
 obtain⟨I,m,hw,z1,hk,hf⟩:=hs;refine⟨I,m,hw.swap hi hl (hO I m (hw.obj i o hi)),⟨z1.1,z1.2.1,fun t x hx=> ?_⟩,by simpa using hk,hf⟩;obtain⟨v,hv,hr⟩:=z1.2.2 t x hx;exact⟨v,hv,by simpa using hr⟩
theorem Uy.toVa{w:World}{I:Nat→Prop}{m:Nat→Option Nat}{n:Nat}{b? :Option Nat}{e c:Nat}{xs:List AV}(h:Uy w I m n b? (.arr e c xs)):Uy w I m n b? (.va e c xs):=by
 rcases h with h|⟨b,cap,vs,e1,hh,h1,h2,h3,h4,hr⟩
 ·exact .inl h
 ·exact .inr ⟨b,cap,vs,e1,hh,h1,h2,h3,h4,fun i x hx j y hy=>by obtain⟨v,hv,hp⟩:=hr i x hx j y hy;exact⟨v,hv,.pure hp⟩⟩
theorem Uy.toArr{w:World}{I:Nat→Prop}{m:Nat→Option Nat}{n:Nat}{b? :Option Nat}{e c:Nat}{xs:List AV}(hp:xs.all (fun x=>x.cells.all AV.pure)=true)(h:Uy w I m n b? (.va e c xs)):Uy w I m n b? (.arr e c xs):=by
 simp only[zP]at hp;rcases h with h|⟨b,cap,vs,e1,hh,h1,h2,h3,h4,hr⟩
 ·exact .inl h
 ·exact .inr ⟨b,cap,vs,e1,hh,h1,h2,h3,h4,fun i x hx j y hy=>by obtain⟨v,hv,hq⟩:=hr i x hx j y hy;exact⟨v,hv,hq.toPure (hp x (zF hx) y (zF hy))⟩⟩
theorem Lg{cd:Code}{sl:List (Nat×AV)}{H:List AObj}(i:Nat){e c:Nat}{xs:List AV}(hi:H[i]? =some (.arr e c xs))(h:AWP P nt k cd Q ⟨sl,H.set i (.va e c xs)⟩):AWP P nt k cd Q ⟨sl,H⟩:=
 fun C a w hs=>h C a w (hs.swap hi rfl (fun _ _=>Uy.toVa))
theorem I7{cd:Code}{sl:List (Nat×AV)}{H:List AObj}(i:Nat){e c:Nat}{xs:List AV}(hi:H[i]? =some (.va e c xs))(hp:xs.all (fun x=>x.cells.all AV.pure)=true)(h:AWP P nt k cd Q ⟨sl,H.set i (.arr e c xs)⟩):AWP P nt k cd Q ⟨sl,H⟩:=
 fun C a w hs=>h C a w (hs.swap hi rfl (fun _ _=>Uy.toArr hp))
theorem Mg{wr:Bool}{sl:List (Nat×AV)}{H:List AObj}(i:Nat){e c:Nat}{xs:List AV}(hi:H[i]? =some (.va e c xs))(hp:xs.all (fun x=>x.cells.all AV.pure)=true)(h:Wy P nt k wr ops o ⟨sl,H.set i (.arr e c xs)⟩ R):Wy P nt k wr ops o ⟨sl,H⟩ R:=
 fun C a w K Q hs=>h C a w K Q (hs.swap hi rfl (fun _ _=>Uy.toArr hp))
theorem St.freezeO{C:Cx P}{a:Act}{w:World}{sl:List (Nat×AV)}{H:List AObj}(hs:St C nt k ⟨sl,H⟩ a w)(i:Nat){e c:Nat}{xs:List AV}(hi:H[i]? =some (.arr e c xs))(t:Nat){o0:AObj}(ht:H[t]? =some o0)(za:t≠i)(hlo:o0.live=true):
  St C nt k ⟨sl.map fun p=>(p.1,p.2.fz i c xs),(H.set i .dead).set t (o0.fz i c xs)⟩ a w:=by
 obtain⟨I,m,hw,z7,hk,hf⟩:=hs;have zc:t<H.length:=(zA.1 ht).1;have z8:Ext w w I (fun b=>I b∨m i=some b):=⟨fun _ h=> .inl h,fun _ _=>rfl⟩
 have z6:Fut H.length w I m w (fun b=>I b∨m i=some b) m:=⟨z8,fun _ _=>rfl,fun _ _ h=>h⟩
 have hlen:((H.set i .dead).set t (o0.fz i c xs)).length=H.length:=by simp
 have z1:∀(id:Nat) (o:AObj),((H.set i .dead).set t (o0.fz i c xs))[id]? =some o→o.live=true→id≠i∧∃o',H[id]? =some o'∧o'.live=true:=fun id o ho hl=>by
  by_cases hid:id=i
  ·subst hid;rw[zB za,zH (zA.1 hi).1]at ho;cases ho;simp[AObj.live]at hl
  ·by_cases hit:id=t
   ·subst hit;exact⟨hid,_,ht,hlo⟩
   ·rw[zB (by omega),zB (by omega)]at ho;exact⟨hid,_,ho,hl⟩
 refine⟨fun b=>I b∨m i=some b,m,⟨hw.below,fun b hb=> .inl (hw.i0 b hb),fun b hb=> ?_,fun id o ho=> ?_,fun id o b ho hl hm=> ?_,fun a b oa ob d ha hb la lb ma mb=> ?_⟩,⟨z7.1,z7.2.1,fun t x hx=> ?_⟩,by rw[hlen];exact hk,hf.trans hk z6⟩
 ·rcases hb with hb|hb
  ·exact hw.iw b hb
  ·have:=hw.own i _ b hi rfl hb;exact⟨this.2.2,.inr this.1⟩
 ·rw[hlen];by_cases hid:id=i
  ·subst hid;rw[zB za,zH (zA.1 hi).1]at ho;cases ho;trivial
  ·by_cases hit:id=t
   ·subst hit;rw[zH (by simpa using zc)]at ho;cases ho;exact(hw.obj id _ ht).fz hw hi
   rw[zB (by omega),zB (by omega)]at ho;exact Uy.mono (hw.obj id o ho) z6 (zK _) (fun _ _ _=>rfl)
 ·obtain⟨zd,o',zb,hl'⟩:=z1 id o ho hl;have h1:=hw.own id o' b zb hl' hm;refine⟨h1.1,fun hc=> ?_,h1.2.2⟩;rcases hc with hc|hc
  ·exact h1.2.1 hc
  ·exact zd (hw.inj id i o' _ b zb hi hl' rfl hm hc)
 ·obtain⟨_,ze,zf,zg⟩:=z1 a oa ha la;obtain⟨_,zh,zi,zj⟩:=z1 b ob hb lb;exact hw.inj a b ze zh d zf zi zg zj ma mb
 ·rw[hlen];have:=Sk hx;obtain⟨y,hy,rfl⟩:=this;obtain⟨v,hv,hr⟩:=z7.2.2 t y hy;exact⟨v,hv,hr.fz hw hi⟩
theorem Pl{cd:Code}{sl:List (Nat×AV)}{H:List AObj}(i:Nat){e c:Nat}{xs:List AV}(hi:H[i]? =some (.arr e c xs))(t:Nat){o0:AObj}(ht:H[t]? =some o0)(z1:t≠i)(hlo:o0.live=true)(h:AWP P nt k cd Q ⟨sl.map fun p=>(p.1,p.2.fz i c xs),(H.set i .dead).set t (o0.fz i c xs)⟩):AWP P nt k cd Q ⟨sl,H⟩:=
 fun C a w hs=>h C a w (hs.freezeO i hi t ht z1 hlo)
theorem Ah{wr:Bool}{sl:List (Nat×AV)}{H:List AObj}(i:Nat){e c:Nat}{xs:List AV}(hi:H[i]? =some (.arr e c xs))(t:Nat){o0:AObj}(ht:H[t]? =some o0)(z1:t≠i)(hlo:o0.live=true)(h:Wy P nt k wr ops o ⟨sl.map fun p=>(p.1,p.2.fz i c xs),(H.set i .dead).set t (o0.fz i c xs)⟩ R):Wy P nt k wr ops o ⟨sl,H⟩ R:=
 fun C a w K Q hs=>h C a w K Q (hs.freezeO i hi t ht z1 hlo)
end
end Go.Abs
namespace Go.Abs
open Go Go.RowKit
theorem Uy.nrmArr{w:World}{I:Nat→Prop}{m:Nat→Option Nat}{n:Nat}{b? :Option Nat}{e c:Nat}{xs:List AV}(h:Uy w I m n b? (.arr e c xs)):Uy w I m n b? (.arr e c (xs.map AV.nrm)):=by
 rcases h with⟨h,rfl⟩|⟨b,cap,vs,e1,hh,h1,h2,h3,h4,hr⟩
 ·exact .inl ⟨h,rfl⟩
 ·refine .inr ⟨b,cap,vs,e1,hh,by simpa using h1,h2,h3,fun x hx=> ?_,fun i x hx j y hy=> ?_⟩
  ·obtain⟨x',z1,rfl⟩:=zM.1 hx;rw[(Vp x').1];exact h4 x' z1
  ·rw[zQ]at hx;obtain⟨x',z1,rfl⟩:=zN.1 hx;obtain⟨y',k1,k2⟩:=(Vp x').2 j y hy;obtain⟨v,hv,hp⟩:=hr i x' z1 j y' k1;exact⟨v,hv,k2 _ _ _ hp⟩
section
variable {P:Program} [Env P] {T:TT} {nt k:Nat} {S:AS} {ops:Array Oper} {o:Oper} {R:AS→Prop} {Q:Exit→AS→Prop}
theorem y0e{cd:Code}{sl:List (Nat×AV)}{H:List AObj}(i:Nat){e c:Nat}{xs:List AV}(hi:H[i]? =some (.arr e c xs))(h:AWP P nt k cd Q ⟨sl,H.set i (.arr e c (xs.map AV.nrm))⟩):AWP P nt k cd Q ⟨sl,H⟩:=
 fun C a w hs=>h C a w (hs.swap hi rfl (fun _ _=>Uy.nrmArr))
theorem Aw {cd:Code} {sl:List (Nat×AV)} {H:List AObj} (i j e sz:Nat) {e':TypeId} {xs:List AV} (hi:H[i]? =some (.va e' 1 xs)) (hj:xs[j]? =some .nils)
  (h:AWP P nt k cd Q ⟨sl,(H++[AObj.arr e sz []]).set i (.va e' 1 (xs.set j (.sl H.length sz 0 0)))⟩):AWP P nt k cd Q ⟨sl,H⟩:=fun C a w hs=>by
 obtain⟨I,m,hw,z1,hk,hf⟩:=hs;obtain⟨g1,g2⟩:=hw.push (Below.refl _ _) none (fun b e=>by cases e) (.arr e sz []) (fun m' _ _=> .inl ⟨rfl,rfl⟩);have z7:i<H.length:=(zA.1 hi).1;have z6:(H++[AObj.arr e sz []])[i]? =some (.va e' 1 xs):=by rw[zE z7];exact hi
 have hO:Uy w I (upd m H.length none) (H++[AObj.arr e sz []]).length (upd m H.length none i) (.va e' 1 (xs.set j (.sl H.length sz 0 0))):=by
  rcases g1.obj i _ z6 with⟨_,rfl⟩|⟨b,cap,vs,e1,hh,h1,h2,h3,h4,hr⟩
  ·simp at hj
  ·refine .inr ⟨b,cap,vs,e1,hh,by simpa using h1,h2,h3,fun x hx=> ?_,fun q x hx t y hy=> ?_⟩
   ·rcases List.mem_or_eq_of_mem_set hx with hx|rfl
    ·exact h4 x hx
    ·rfl
   ·by_cases hq:j=q
    ·subst hq;rw[zH (zA.1 hj).1]at hx;cases hx;cases t with
     |zero=>simp only[AV.cells,List.getElem?_cons_zero,Option.some.injEq]at hy;subst hy;obtain⟨v,hv,hp⟩:=hr j _ hj 0 .nils rfl;have:=hp.nils_inv;subst this;exact⟨_,hv,.slnone H.length sz (by simp) (Wn ..)⟩
     |succ t=>simp[AV.cells]at hy
    ·rw[zB hq]at hx;exact hr q x hx t y hy
 have g3:=g1.swap z6 rfl hO;have hlen:((H++[AObj.arr e sz []]).set i (.va e' 1 (xs.set j (.sl H.length sz 0 0)))).length=H.length+1:=by simp
 refine h C a w ⟨I,upd m H.length none,g3,⟨z1.1,z1.2.1,fun s x hx=> ?_⟩,by simp at hk ⊢;omega,hf.trans hk g2⟩;obtain⟨v,hv,z8⟩:=z1.2.2 s x hx;refine⟨v,hv,?_⟩;have:=z8.mono (n':=H.length+1) g2 (by simp);rw[hlen];exact this
end
end Go.Abs
namespace Go.Abs
open Go
section
variable {P:Program} [Env P] {T:TT} {nt k:Nat} {S:AS}
theorem u0u (hT:TOk P T) (hm:P.follows .mixedOrders=true) {Q Q':Exit→AS→Prop} {id:Nat} {l:List Oper} {next:Code} (Wr:List Nat) (p:PlanM) (Ph:AS→Prop) (hd:Uh nt l=true)
  (hp:(Region.noSelect l.toArray && p.size==l.length && Y5 l.toArray (Uz l []) Wr p (vV l.length false))=true)
  (h:Ur P T nt k l.toArray Wr.contains Ph p S) (hn:∀S',Ph S'→AWP P nt k next Q S'):AWP P nt k (.region id l.toArray true) (A8 (AWP P nt k next Q) Q') S:=
 (G7 (Q:=fun e S=>e= .normal∧Ph S) hT hm Wr p hd hp (Er (fun _ h=>⟨rfl,h⟩) p S h)).mono fun e S ⟨he,hr⟩=>by subst he;exact hn S hr
theorem Ex{cd:Code}{Q:Exit→AS→Prop}{sl:List (Nat×AV)}{H:List AObj}(h:∀Z,Z=H→AWP P nt k cd Q ⟨sl,Z⟩):AWP P nt k cd Q ⟨sl,H⟩:=h H rfl
theorem Uf{wr:Bool}{ops:Array Oper}{o:Oper}{R:AS→Prop}{sl:List (Nat×AV)}{H:List AObj}(h:∀Z,Z=H→Wy P nt k wr ops o ⟨sl,Z⟩ R):Wy P nt k wr ops o ⟨sl,H⟩ R:=h H rfl
end
end Go.Abs
namespace Go.Abs
open Go Go.RowKit Go.Maps
section
variable {P:Program} [Env P] {T:TT} {nt k:Nat} {S:AS} {ops:Array Oper} {o:Oper} {R:AS→Prop} {Q:Exit→AS→Prop}
theorem WS.still{W0 w:World}{I0 I:Nat→Prop}{m:Nat→Option Nat}{H:List AObj}(hw:WS W0 I0 w I m H){i:Nat}{o:AObj}(hi:H[i]? =some o)(z8:o.live=true):
  WS W0 I0 w (fun b=>I b∨m i=some b) m (H.set i .dead)∧Fut H.length w I m w (fun b=>I b∨m i=some b) m:=by
 have z7:Ext w w I (fun b=>I b∨m i=some b):=⟨fun _ h=> .inl h,fun _ _=>rfl⟩
 have z6:Fut H.length w I m w (fun b=>I b∨m i=some b) m:=⟨z7,fun _ _=>rfl,fun _ _ h=>h⟩
 have hlen:(H.set i .dead).length=H.length:=by simp
 have z1:∀(id:Nat) (o:AObj),(H.set i .dead)[id]? =some o→o.live=true→id≠i∧H[id]? =some o:=fun id o ho hl=>by
  by_cases hid:id=i
  ·subst hid;rw[zH (zA.1 hi).1]at ho;cases ho;simp[AObj.live]at hl
  ·rw[zB (by omega)]at ho;exact⟨hid,ho⟩
 refine⟨⟨hw.below,fun b hb=> .inl (hw.i0 b hb),fun b hb=> ?_,fun id o ho=> ?_,fun id o b ho hl hm=> ?_,fun a b oa ob d ha hb la lb ma mb=> ?_⟩,z6⟩
 ·rcases hb with hb|hb
  ·exact hw.iw b hb
  ·have:=hw.own i _ b hi z8 hb;exact⟨this.2.2,.inr this.1⟩
 ·rw[hlen];by_cases hid:id=i
  ·subst hid;rw[zH (zA.1 hi).1]at ho;cases ho;trivial
  ·rw[zB (by omega)]at ho;exact Uy.mono (hw.obj id o ho) z6 (zK _) (fun _ _ _=>rfl)
 ·obtain⟨zb,za⟩:=z1 id o ho hl;have h1:=hw.own id o b za hl hm;refine⟨h1.1,fun hc=> ?_,h1.2.2⟩;rcases hc with hc|hc
  ·exact h1.2.1 hc
  ·exact zb (hw.inj id i o _ b za hi hl z8 hm hc)
 ·obtain⟨_,zc⟩:=z1 a oa ha la;obtain⟨_,zd⟩:=z1 b ob hb lb;exact hw.inj a b oa ob d zc zd la lb ma mb
theorem z0p{es:Array MapEntry}{seen:Array Nat}{e:MapEntry}(h:e∈(leftOf es seen).toList):e∈es.toList:=by unfold leftOf at h;simp at h;simpa using h.1
theorem Oa(es:Array MapEntry):leftOf es #[]=es:=by unfold leftOf;exact Array.filter_eq_self.2 (fun x _=>by simp)
theorem Dt:∀(L:List MapEntry) (j:Nat) (e:MapEntry),(L.map (·.born)).Nodup→L[j]? =some e→L.filter (fun x=> !(x.born==e.born))=L.eraseIdx j
 |[],j,e,_,h=>by simp at h
 |x::L,0,e,hn,h=>by simp at h;subst h;simp only[yO,uu]at hn;rw[List.eraseIdx_cons_zero,td,if_neg (by simp)];refine List.filter_eq_self.2 (fun y hy=> ?_);have:y.born≠x.born:=fun h=>hn.1 (by rw[←h];exact vZ hy);simpa using this
 |x::L,j+1,e,hn,h=>by simp at h;simp only[yO,uu]at hn;have z1:x.born≠e.born:=fun h'=>hn.1 (by rw[h'];exact vZ (zF h));rw[List.eraseIdx_cons_succ,td,if_pos (by simpa using z1),Dt L j e hn.2 h]
theorem Ma(es:Array MapEntry)(seen:Array Nat)(hn:(es.toList.map (·.born)).Nodup){j:Nat}{e:MapEntry}(h:(leftOf es seen)[j]? =some e):(leftOf es (seen.push e.born)).toList=(leftOf es seen).toList.eraseIdx j:=by
 have h1:(leftOf es seen).toList=es.toList.filter (fun x=> !seen.contains x.born):=by simp[leftOf]
 have h2:(leftOf es (seen.push e.born)).toList=es.toList.filter (fun x=> !(seen.push e.born).contains x.born):=by simp[leftOf]
 have z1:((leftOf es seen).toList.map (·.born)).Nodup:=by rw[h1];exact hn.sublist ((List.filter_sublist (p:=fun x:MapEntry=> !seen.contains x.born) (l:=es.toList)).map _)
 rw[←Dt _ j e z1 (by rw[xH];exact h),h1,h2,List.filter_filter]
 congr 1
 funext x;rw[contains_push];cases seen.contains x.born<;>cases(x.born==e.born)<;>rfl
theorem F4 (hT:TOk P T) {wr:Bool} (hw:Wf ops S o=some true) (hd:Ef nt o=true) {t kt et:TypeId} {x:Operand} (ho:o.op= .range t x) {it:TI} (ht:look T t=some it) (hit:it.desc= .map kt et)
  {id:Nat} (hx:rho S.sl x=some (.mref id)) {kvs:List (AV×AV)} (z6:S.hp[id]? =some (.mp kvs))
  (hR:R (({ S with hp:=S.hp.set id .dead++[.it kvs none] }:AS).putD o.dst (.vptr S.hp.length 0))):Wy P nt k wr ops o S R:=fun C a w K' Q hst hK=>by
 unfold OpW;rw[if_pos (hst.wanted hw)];obtain⟨I,m,z7,zb,hk,hE⟩:=hst;have zc:=hT.und ht;rw[hit]at zc;obtain⟨b,hb,_,ze⟩:=(Q7 zb hx).mref_inv;obtain⟨b',es,ck,zd,hh,hz,hr⟩:=z7.obj id _ z6;obtain rfl:b=b':=by rw[hb]at zd;exact Option.some.inj zd
 have z8:=run_range_map (P:=P) w t kt et b es ck zc hh;have hex:(execOp a.eval o).run P w= .ok (.value (.pointer (some ⟨w.heap.size,0,none⟩))) (w.alloc (.mapIter (some b) ck #[] ck)):=by simp[execOp,ho,ze,z8]
 obtain⟨s1,s2⟩:=z7.still z6 rfl;have za:Below w.heap.size w (w.alloc (.mapIter (some b) ck #[] ck)):=(Below.refl _ _).alloc (zK _) _;have z1:(w.alloc (.mapIter (some b) ck #[] ck)).heap[w.heap.size]? =some (.mapIter (some b) ck #[] ck):=heap_alloc_new w _;have zf:b<w.heap.size:=(z7.own id _ b z6 rfl hb).2.2;have hold:(w.alloc (.mapIter (some b) ck #[] ck)).heap[b]? =some (.map es ck):=by rw[za.block b zf];exact hh
 obtain⟨g1,g2⟩:=s1.push za (some w.heap.size) (fun c e=>by injection e with e;subst e;exact⟨zK _,(yB.1 z1).1⟩) (.it kvs none) (fun m' hf hm=>⟨w.heap.size,b,es,ck,ck,#[],ck,rfl,z1,.inr hb,hold,hz.born,zK _,zK _,hz.nodup,by rw[Oa];exact hz.size,
  fun i e p he hp=>by rw[Oa]at he;exact⟨((hr i e p he hp).1.mono s2.ext).mono hf.ext,((hr i e p he hp).2.mono s2.ext).mono hf.ext⟩,fun p hp=>by cases hp⟩)
 unfold wpA;rw[hex];have hl:(S.hp.set id .dead).length=S.hp.length:=by simp
 rw[hl]at g1 g2;refine hK _ _ _ hR (St.value zb hk hE g1 (s2.trans (zK _) g2) (by simp) (Q5 hd) (.vptr _ _ _ (by simp) (Wn _ _ _))) (fun _=>Tw.of_below za)
theorem Da (hw:Wf ops S o=some true) (hd:Ef nt o=true) {x:Operand} (ho:o.op= .next x false) {id:Nat} (hx:rho S.sl x=some (.vptr id 0)) {left:List (AV×AV)} {cur:Option (AV×AV)} (zh:S.hp[id]? =some (.it left cur))
  (zl:left=[]→R (S.putD o.dst (.tup [.bool false])))
  (zm:∀(j:Nat) (p:AV×AV),left[j]? =some p→R (({ S with hp:=S.hp.set id (.it (left.eraseIdx j) (some p)) }:AS).putD o.dst (.tup [.bool true,p.1,p.2]))):Wy P nt k true ops o S R:=fun C a w K' Q hst hK=>by
 unfold OpW;rw[if_pos (hst.wanted hw)];obtain⟨I,m,zb,zc,hk,hE⟩:=hst;obtain⟨r,hb,_,zi⟩:=(Q7 zc hx).vptr_inv;obtain⟨r',bm,es,ck,since,seen,c0,zj,hh,hI,hm,h1,h2,h3,h4,h5,hr,zu⟩:=zb.obj id _ zh;obtain rfl:r=r':=by rw[hb]at zj;exact Option.some.inj zj
 unfold wpA;rcases run_next_at (P:=P) w o.type r bm since c0 seen es ck hh hm h1 h2 with⟨hz,z7⟩|⟨e,he,w1,zd,z7⟩
 ·have hl:left=[]:=xW (by rw[←h5];exact hz);have hex:(execOp a.eval o).run P w= .ok (.value (.tuple #[.bool false])) w:=by simp[execOp,ho,zi,z7]
  rw[hex];refine hK _ _ _ (zl hl) (St.value zc hk hE zb (Fut.refl _ _ _ _) (zK _) (Q5 hd) (.pure (.tup _ _ rfl (fun i v x hv hx=> ?_)))) (fun e=>by cases e);cases i with
  |zero=>simp at hv hx;subst hv;subst hx;exact .bool _
  |succ i=>simp at hx
 ·obtain⟨j,hj,rfl⟩:=yC he;have zn:j<(leftOf es seen).size:=by simpa using hj
  have ze:(leftOf es seen)[j]? =some ((leftOf es seen).toList[j]):=by simp[zn]
  generalize (leftOf es seen).toList[j]=e at *
  obtain⟨p,hp⟩:∃p,left[j]? =some p:=⟨left[j]'(by omega),by simp⟩
  have zv:es.toList.Nodup∨True:= .inr trivial;have zo:w1.heap[r]? =some (.mapIter (some bm) since seen c0):=by rcases zd with rfl|rfl<;>exact hh
  have zp:w1.heap[bm]? =some (.map es ck):=by rcases zd with rfl|rfl<;>exact hm
  have z8:=MapKept.heap_set (o':= .mapIter (some bm) since (seen.push e.born) ck) zo;have zq:bm≠r:=fun h=>by rw[h,hh]at hm;cases hm
  have zr:(ChangeMaps.setBlock w1 r (.mapIter (some bm) since (seen.push e.born) ck)).heap[bm]? =some (.map es ck):=(z8.2 bm zq).trans zp;have hg:w.grownBy (ChangeMaps.setBlock w1 r (.mapIter (some bm) since (seen.push e.born) ck)) (some r):=by rcases zd with rfl|rfl<;>exact⟨rfl,rfl,rfl,by simp[ChangeMaps.setBlock],fun i _ hi=>z8.2 i (fun e1=>hi (by rw[e1]))⟩
  have z1:w.shape? r=none:=by simp[World.shape?,hh]
  have z6:=Ma es seen h4 ze;have zt:(leftOf es (seen.push e.born)).size=(left.eraseIdx j).length:=by have:=congrArg List.length z6;rw[xX,u5,xX]at this;rw[this,u5,h5]
  have zk:∀(i:Nat) (x:MapEntry) (q:AV×AV),(leftOf es (seen.push e.born))[i]? =some x→(left.eraseIdx j)[i]? =some q→PVR w I x.key q.1∧PVR w I x.val q.2:=by
   intro i x q hx hq;rw[←xH,z6,uC]at hx;rw[uC]at hq;split at hx
   ·rename_i zf;rw[if_pos zf]at hq;exact hr i x q (by rw[←xH];exact hx) hq
   ·rename_i zf;rw[if_neg zf]at hq;exact hr (i+1) x q (by rw[←xH];exact hx) hq
  have za:=hr j e p ze hp;have zg:e∈es.toList:=z0p (Array.mem_toList_iff.2 (vW ze));obtain⟨g1,g2⟩:=zb.set (o':= .it (left.eraseIdx j) (some p)) zh rfl hb hg (fun s hs=>by rw[z1]at hs;cases hs) (fun m' hf=>⟨r,bm,es,ck,since,seen.push e.born,ck,rfl,z8.1,hI,zr,h1,h3,h3,h4,zt,fun i x q hx hq=>⟨(zk i x q hx hq).1.mono hf.ext,(zk i x q hx hq).2.mono hf.ext⟩,fun q hq=>by cases hq;exact⟨e,seen,rfl,rfl,zg,za.1.mono hf.ext,za.2.mono hf.ext⟩⟩);have hex:(execOp a.eval o).run P w= .ok (.value (.tuple #[.bool true,e.key,e.val])) (ChangeMaps.setBlock w1 r (.mapIter (some bm) since (seen.push e.born) ck)):=by simp[execOp,ho,zi,z7]
  rw[hex];refine hK _ _ _ (zm j p hp) (St.value zc hk hE g1 g2 (by simp) (Q5 hd) (.pure (.tup _ _ rfl (fun i v x hv hx=> ?_)))) (fun e=>by cases e)
  match i,hv,hx with
  |0,hv,hx=>simp at hv hx;subst hv;subst hx;exact .bool _
  |1,hv,hx=>simp at hv hx;subst hv;subst hx;exact za.1.mono g2.ext
  |2,hv,hx=>simp at hv hx;subst hv;subst hx;exact za.2.mono g2.ext
  |i+3,hv,hx=>simp at hx
theorem Pm {wr:Bool} (hw:Wf ops S o=some true) (hd:Ef nt o=true) {x:Operand} (ho:o.op= .entry x) {id:Nat} (hx:rho S.sl x=some (.vptr id 0)) {left:List (AV×AV)} {p:AV×AV} (za:S.hp[id]? =some (.it left (some p)))
  (hR:R (S.putD o.dst (.tup [p.1,p.2]))):Wy P nt k wr ops o S R:=fun C a w K' Q hst hK=>by
 unfold OpW;rw[if_pos (hst.wanted hw)];obtain⟨I,m,z6,z7,hk,hE⟩:=hst;obtain⟨r,hb,_,zb⟩:=(Q7 z7 hx).vptr_inv;obtain⟨r',bm,es,ck,since,seen,c0,z8,hh,hI,hm,h1,h2,h3,h4,h5,hr,zc⟩:=z6.obj id _ za;obtain rfl:r=r':=by rw[hb]at z8;exact Option.some.inj z8
 obtain⟨e,sn,rfl,rfl,he,zd,ze⟩:=zc p rfl;unfold wpA;have z1:=run_entry_at (P:=P) w r bm since sn es c0 e hh hm he h4;have hex:(execOp a.eval o).run P w= .ok (.value (.tuple #[e.key,e.val])) w:=by simp[execOp,ho,zb,z1]
 rw[hex];refine hK _ _ _ hR (St.value z7 hk hE z6 (Fut.refl _ _ _ _) (zK _) (Q5 hd) (.pure (.tup _ _ rfl (fun i v x hv hx=> ?_)))) (fun _=>Tw.refl w)
 match i,hv,hx with
 |0,hv,hx=>simp at hv hx;subst hv;subst hx;exact zd
 |1,hv,hx=>simp at hv hx;subst hv;subst hx;exact ze
 |i+2,hv,hx=>simp at hx
end
end Go.Abs
namespace Go.Abs
open Go Go.RowKit Go.Maps
section
variable {P:Program} [Env P] {T:TT} {nt k:Nat} {S:AS} {ops:Array Oper} {o:Oper} {R:AS→Prop} {Q:Exit→AS→Prop}
theorem Ji (hT:TOk P T) {wr:Bool} (hw:Wf ops S o=some true) (hd:Ef nt o=true) {t kt et:TypeId} {x ix:Operand} (ho:o.op= .lookup t x ix true) {it ei:TI} (ht:look T t=some it) (hit:it.desc= .map kt et) (he:look T et=some ei)
  (K:Keyed P kt) {id:Nat} (hx:rho S.sl x=some (.mref id)) {kx:AV} (zd:rho S.sl ix=some kx) {kvs:List (AV×AV)} (ze:S.hp[id]? =some (.mp kvs)) (zf:isKey P kt kx) (zg:∀p∈kvs,isKey P kt p.1) {z:AV} (hz:z.val=some ei.zero)
  (zh:∀(j:Nat) (p:AV×AV),kvs[j]? =some p→p.1=kx→R (S.putD o.dst (.tup [p.2,.bool true]))) (zi:(∀p∈kvs,p.1≠kx)→R (S.putD o.dst (.tup [z,.bool false]))):Wy P nt k wr ops o S R:=fun C a w K' Q hst hK=>by
 unfold OpW;rw[if_pos (hst.wanted hw)];obtain⟨I,m,z7,z6,hk,hE⟩:=hst;have z8:=hT.und ht;rw[hit]at z8;obtain⟨b,hb,_,zb⟩:=(Q7 z6 hx).mref_inv;obtain⟨u,lk,hu,za⟩:=zf;have zj:kx.pure=true:=AV.kv_pure hu;have z1:=((Q7 z6 zd).toPure zj).kv hu;obtain⟨b',es,ck,zc,hh,zk,hr⟩:=z7.obj id _ ze;have hl:=zk.size;obtain rfl:b=b':=by rw[hb]at zc;exact Option.some.inj zc
 have zl:=hT.zero he w;have two:∀(v:Value) (y:AV) (q:Bool),PVR w I v y→PVR w I (.tuple #[v,.bool q]) (.tup [y,.bool q]):=fun v y q h=> .tup _ _ rfl (fun i v' x' hv hx=>by
  match i with
  |0=>simp at hv hx;subst hv hx;exact h
  |1=>simp at hv hx;subst hv hx;exact .bool _
  |i+2=>simp at hv)
 unfold wpA;rcases Pv K hl (fun i e p a b=>(hr i e p a b).1) hu za zg with⟨h1,h2⟩|⟨j,e,p,h1,h2,h3,h4,h5⟩
 ·have:(execOp a.eval o).run P w= .ok (.value (.tuple #[ei.zero,.bool false])) w:=by simp[execOp,ho,zb,z1,Instr.lookup,run_underlying z8,MapKept.run_getObj_map hh,K.check w _ za,h1,zl,Result.andThen]
  rw[this];refine hK _ _ w (zi h2) (St.value z6 hk hE z7 (Fut.refl _ _ _ _) (zK _) (Q5 hd) (.pure (two _ _ _ ?_))) (fun _=>Tw.refl w);cases z<;>simp[AV.val]at hz<;>rw[←hz]
  ·exact .bool _
  ·exact .int _ _
  ·exact .str _
 ·have:(execOp a.eval o).run P w= .ok (.value (.tuple #[e.val,.bool true])) w:=by simp[execOp,ho,zb,z1,Instr.lookup,run_underlying z8,MapKept.run_getObj_map hh,K.check w _ za,h1,Result.andThen]
  rw[this];exact hK _ _ w (zh j p h3 h4) (St.value z6 hk hE z7 (Fut.refl _ _ _ _) (zK _) (Q5 hd) (.pure (two _ _ _ (hr j e p h2 h3).2))) (fun _=>Tw.refl w)
end
end Go.Abs
namespace Go.Abs
open Go Go.RowKit Go.Maps
section
variable {P:Program} [Env P] {T:TT} {nt k:Nat} {S:AS} {ops:Array Oper} {o:Oper} {R:AS→Prop} {Q:Exit→AS→Prop}
theorem WS.stillM{W0 w:World}{I0 I:Nat→Prop}{m:Nat→Option Nat}{H:List AObj}(hw:WS W0 I0 w I m H){i:Nat}{kvs:List (AV×AV)}(hi:H[i]? =some (.mp kvs)):
  WS W0 I0 w (fun b=>I b∨m i=some b) m (H.set i (.fm kvs))∧Fut H.length w I m w (fun b=>I b∨m i=some b) m:=by
 obtain⟨s1,s2⟩:=hw.still hi rfl;have z1:∀(id:Nat) (o:AObj),(H.set i (.fm kvs))[id]? =some o→id≠i→(H.set i .dead)[id]? =some o:=fun id o ho z6=>by rw[zB (by omega)]at ho ⊢;exact ho
 have z6:∀(id:Nat) (o:AObj),(H.set i (.fm kvs))[id]? =some o→o.live=true→id≠i:=fun id o ho hl hid=>by subst hid;rw[zH (zA.1 hi).1]at ho;cases ho;simp[AObj.live]at hl
 refine⟨⟨s1.below,s1.i0,s1.iw,fun id o ho=> ?_,fun id o b ho hl hm=>s1.own id o b (z1 id o ho (z6 id o ho hl)) hl hm,fun a b oa ob d ha hb la lb ma mb=>s1.inj a b oa ob d (z1 a oa ha (z6 a oa ha la)) (z1 b ob hb (z6 b ob hb lb)) la lb ma mb⟩,s2⟩;by_cases hid:id=i
 ·subst hid;rw[zH (zA.1 hi).1]at ho;cases ho;obtain⟨b,es,ck,hb,hh,hz,hr⟩:=hw.obj id _ hi;exact⟨b,es,ck,hb,.inr hb,hh,hz,fun j e p a c=>⟨(hr j e p a c).1.mono s2.ext,(hr j e p a c).2.mono s2.ext⟩⟩
 ·have h1:=s1.obj id o (z1 id o ho hid);have e1:(H.set i (.fm kvs)).length=(H.set i AObj.dead).length:=by simp
  rw[e1];exact h1
theorem X4 (hT:TOk P T) {wr:Bool} (hw:Wf ops S o=some true) (hd:Ef nt o=true) {t kt et:TypeId} {x:Operand} (ho:o.op= .range t x) {it:TI} (ht:look T t=some it) (hit:it.desc= .map kt et)
  {id:Nat} (hx:rho S.sl x=some (.mref id)) {kvs:List (AV×AV)} (z6:S.hp[id]? =some (.mp kvs))
  (hR:R (({ S with hp:=S.hp.set id (.fm kvs)++[.it kvs none] }:AS).putD o.dst (.vptr S.hp.length 0))):Wy P nt k wr ops o S R:=fun C a w K' Q hst hK=>by
 unfold OpW;rw[if_pos (hst.wanted hw)];obtain⟨I,m,z7,zb,hk,hE⟩:=hst;have zc:=hT.und ht;rw[hit]at zc;obtain⟨b,hb,_,ze⟩:=(Q7 zb hx).mref_inv;obtain⟨b',es,ck,zd,hh,hz,hr⟩:=z7.obj id _ z6;obtain rfl:b=b':=by rw[hb]at zd;exact Option.some.inj zd
 have z8:=run_range_map (P:=P) w t kt et b es ck zc hh;have hex:(execOp a.eval o).run P w= .ok (.value (.pointer (some ⟨w.heap.size,0,none⟩))) (w.alloc (.mapIter (some b) ck #[] ck)):=by simp[execOp,ho,ze,z8]
 obtain⟨s1,s2⟩:=z7.stillM z6;have za:Below w.heap.size w (w.alloc (.mapIter (some b) ck #[] ck)):=(Below.refl _ _).alloc (zK _) _;have z1:(w.alloc (.mapIter (some b) ck #[] ck)).heap[w.heap.size]? =some (.mapIter (some b) ck #[] ck):=heap_alloc_new w _;have zf:b<w.heap.size:=(z7.own id _ b z6 rfl hb).2.2;have hold:(w.alloc (.mapIter (some b) ck #[] ck)).heap[b]? =some (.map es ck):=by rw[za.block b zf];exact hh
 obtain⟨g1,g2⟩:=s1.push za (some w.heap.size) (fun c e=>by injection e with e;subst e;exact⟨zK _,(yB.1 z1).1⟩) (.it kvs none) (fun m' hf hm=>⟨w.heap.size,b,es,ck,ck,#[],ck,rfl,z1,.inr hb,hold,hz.born,zK _,zK _,hz.nodup,by rw[Oa];exact hz.size,
  fun i e p he hp=>by rw[Oa]at he;exact⟨((hr i e p he hp).1.mono s2.ext).mono hf.ext,((hr i e p he hp).2.mono s2.ext).mono hf.ext⟩,fun p hp=>by cases hp⟩)
 unfold wpA;rw[hex];have hl:(S.hp.set id (.fm kvs)).length=S.hp.length:=by simp
 rw[hl]at g1 g2;refine hK _ _ _ hR (St.value zb hk hE g1 (s2.trans (zK _) g2) (by simp) (Q5 hd) (.vptr _ _ _ (by simp) (Wn _ _ _))) (fun _=>Tw.of_below za)
theorem Zb (hT:TOk P T) {wr:Bool} (hw:Wf ops S o=some true) (hd:Ef nt o=true) {t kt et:TypeId} {x ix:Operand} (ho:o.op= .lookup t x ix false) {it ei:TI} (ht:look T t=some it) (hit:it.desc= .map kt et) (he:look T et=some ei)
  (K:Keyed P kt) {id:Nat} (hx:rho S.sl x=some (.mref id)) {kx:AV} (zd:rho S.sl ix=some kx) {kvs:List (AV×AV)} (ze:S.hp[id]? =some (.fm kvs)) (zf:isKey P kt kx) (zg:∀p∈kvs,isKey P kt p.1) {z:AV} (hz:z.val=some ei.zero)
  (zh:∀(j:Nat) (p:AV×AV),kvs[j]? =some p→p.1=kx→R (S.putD o.dst p.2)) (zi:(∀p∈kvs,p.1≠kx)→R (S.putD o.dst z)):Wy P nt k wr ops o S R:=fun C a w K' Q hst hK=>by
 unfold OpW;rw[if_pos (hst.wanted hw)];obtain⟨I,m,z7,z6,hk,hE⟩:=hst;have z8:=hT.und ht;rw[hit]at z8;obtain⟨b,hb,_,zb⟩:=(Q7 z6 hx).mref_inv;obtain⟨u,lk,hu,za⟩:=zf;have zj:kx.pure=true:=AV.kv_pure hu;have z1:=((Q7 z6 zd).toPure zj).kv hu;obtain⟨b',es,ck,zc,_,hh,zk,hr⟩:=z7.obj id _ ze;have hl:=zk.size;obtain rfl:b=b':=by rw[hb]at zc;exact Option.some.inj zc
 have zl:=hT.zero he w;unfold wpA;rcases Pv K hl (fun i e p a b=>(hr i e p a b).1) hu za zg with⟨h1,h2⟩|⟨j,e,p,h1,h2,h3,h4,h5⟩
 ·have:(execOp a.eval o).run P w= .ok (.value ei.zero) w:=by simp[execOp,ho,zb,z1,Instr.lookup,run_underlying z8,MapKept.run_getObj_map hh,K.check w _ za,h1,zl,Result.andThen]
  rw[this];refine hK _ _ w (zi h2) (St.value z6 hk hE z7 (Fut.refl _ _ _ _) (zK _) (Q5 hd) (.pure ?_)) (fun _=>Tw.refl w);cases z<;>simp[AV.val]at hz<;>rw[←hz]
  ·exact .bool _
  ·exact .int _ _
  ·exact .str _
 ·have:(execOp a.eval o).run P w= .ok (.value e.val) w:=by simp[execOp,ho,zb,z1,Instr.lookup,run_underlying z8,MapKept.run_getObj_map hh,K.check w _ za,h1,Result.andThen]
  rw[this];exact hK _ _ w (zh j p h3 h4) (St.value z6 hk hE z7 (Fut.refl _ _ _ _) (zK _) (Q5 hd) (.pure (hr j e p h2 h3).2)) (fun _=>Tw.refl w)
end
end Go.Abs
namespace Go.Abs
open Go
def rD{α:Type}:Result α→Nat
 | .ok _ w=>w.drawn
 | .halt _ w=>w.drawn
theorem f0q{α:Type}:∀(k:Ask α) (w:World),w.drawn≤(w.ask k).2.drawn
 | .done a,w=>by simp[World.ask]
 | .ask what range k,w=>by
  unfold World.ask;simp only[];split
  ·exact f0q _ w
  ·exact yP (vQ _) (f0q (k _) { w with drawn:=w.drawn+1 })
theorem g1n(w:World)(c:Sys):w.drawn≤(w.sys c).2.drawn:=by
 unfold World.sys;have:=f0q (Kernel.perform c w.os) w;split
 ·exact zK _
 ·rename_i h;exact(h▸this:w.drawn≤_)
theorem j1v{p:Program}{w w':World}{x:Addr}{u:TypeId}{a:Addr}{v:Value}{b:Bool}{l:List Addr}(h:w.viewStore p x u a v b= .ok (w',l)):w'.drawn=w.drawn:=by
 unfold World.viewStore at h;simp only[bind,Except.bind,pure,Except.pure,throw,throwThe,MonadExceptOf.throw]at h
 repeat' first
  |(simp at h;done)
  |(simp only[Except.ok.injEq,Prod.mk.injEq]at h;rw[←h.1];done)
  |split at h
theorem g1m{p:Program}{w w':World}{a:Addr}{v:Value}{b:Bool}{l:List Addr}(h:w.farStore p a v b= .ok (w',l)):w'.drawn=w.drawn:=by
 unfold World.farStore at h;split at h
 ·split at h
  ·rename_i r hr;obtain rfl:=Except.ok.inj h;exact j1v hr
  ·cases h
 ·cases h
theorem v0w(w:World)(a:Addr)(n:Nat):(w.freeze a n).drawn=w.drawn:=by unfold World.freeze;first|rfl|(split<;>rfl)
theorem w0h{α:Type}(p:Program)(s:Sem α)(w:World):w.drawn≤rD (s.run p w):=by
 induction s generalizing w with
 |pure a=>exact zK _
 |load m a k ih=>
  simp only[Sem.run];split
  ·exact ih _ _
  ·split
   ·exact ih _ _
   ·exact zK _
 |store m a v k ih=>
  have key:w.drawn≤rD (match w.cell? a with
   |some _=>if w.frozen? a then .halt (.unsupported (.unsafePointer "a write to bytes that a string shares")) w else k.run p (w.setCell a v)
   |none=>match w.farStore p a v (m== .atomic)with
    | .ok (w,_)=>k.run p w
    | .error h=> .halt h w):=by
   split
   ·split
    ·exact zK _
    ·exact ih (w.setCell a v)
   ·split
    ·rename_i hf;have:=g1m hf;rw[←this];exact ih _
    ·exact zK _
  cases v<;>first|exact key|exact zK _
 |new o k ih=>exact ih _ { w with heap:=w.heap.push o }
 |shape r k ih=>exact ih _ _
 |freeze a n k ih=>simp only[Sem.run];have:=ih (w.freeze a n);rw[v0w]at this;exact this
 |frozen a k ih=>exact ih _ _
 |getObj r k ih=>simp only[Sem.run];split<;>first|exact zK _|exact ih _ _
 |setObj r o k ih=>simp only[Sem.run];split<;>first|exact zK _|exact ih { w with heap:=w.heap.setIfInBounds r o }
 |choose q k ih=>
  simp only[Sem.run];split
  ·exact ih _ _
  ·exact yP (vQ _) (ih _ { w with drawn:=w.drawn+1 })
 |sys c k ih=>exact yP (g1n w c) (ih _ _)
 |program k ih=>exact ih _ _
 |mark m k ih=>exact ih _
 |halt h=>exact zK _
theorem of_run{α:Type}{p:Program}{s:Sem α}{w:World}{r:Result α}(h:s.run p w=r):w.drawn≤rD r:=by rw[←h];exact w0h p s w
theorem v0q{α:Type}{p:Program}{s:Sem α}{w w':World}{v:α}(h:s.run p w= .ok v w'):w.drawn≤w'.drawn:=of_run h
theorem Db{α:Type}{p:Program}{s:Sem α}{w:World}{es:Array Event}{r:Result α}(h:(s.runT p w es).1=r):w.drawn≤rD r:=by have:=w0h p s w;rw[←Sem.runT_fst p s w es,h]at this;exact this
theorem Z5{α:Type}{p:Program}{s:Sem α}{w:World}{es es':Array Event}{r:Result α}(h:s.runT p w es=(r,es')):w.drawn≤rD r:=by have:=w0h p s w;rw[←Sem.runT_fst p s w es,h]at this;exact this
def gD(d:Nat):GStep→Prop
 | .ended .. =>True
 | .go _ w _=>d≤w.drawn
 | .comm _ _ _ _ w _=>d≤w.drawn
 | .spawn _ _ w _=>d≤w.drawn
 | .count _ w _=>d≤w.drawn
 | .timer _ _ w _=>d≤w.drawn
 | .alone _ _ w _=>d≤w.drawn
 | .newcoro _ _ _ w _=>d≤w.drawn
 | .coroswitch _ _ _ w _=>d≤w.drawn
 | .collect _ w _=>d≤w.drawn
 | .watch _ w _=>d≤w.drawn
theorem Ao{d:Nat}{es:Array Event}{s:GStep}:gD d (GStep.after es s)↔gD d s:=by cases s<;>exact Iff.rfl
theorem gD.le{d d':Nat}{s:GStep}(h:gD d' s)(hd:d≤d'):gD d s:=by cases s<;>first|trivial|exact yP hd h
theorem q2q{c:Prop}[Decidable c]{a b:GStep}{d:Nat}(h1:gD d a)(h2:gD d b):gD d (if c then a else b):=by split<;>assumption
theorem d1v(fr:Frame)(l:List ByteArray)(m:String)(b:Bool)(w:World):gD w.drawn (dieOf fr l m b w):=zK _
theorem Fs(fr:Frame)(m:String)(w:World):gD w.drawn (endThrow fr m w):=zK _
theorem Hb(p:Program)(fr:Frame)(v:Value)(w:World):gD w.drawn (endPrinting p fr v w):=by unfold endPrinting;simp only[];split<;>first|exact Fs _ _ _|trivial
theorem w0j(p:Program)(fr:Frame)(c:List Frame)(d:Option Dying)(m:String)(w:World):gD w.drawn (endFatal p fr c d m w):=by
 unfold endFatal;simp only[];split
 ·rename_i h;exact(d1v _ _ _ _ _).le (v0q h)
 ·trivial
 ·trivial
theorem w09(w:World)(fd:Nat)(t:ByteArray)(o:Outcome)(d:Nat):gD d (endWith w fd t o):=by
 unfold endWith;simp only[];split
 ·split<;>trivial
 ·trivial
 ·trivial
theorem z0v(p:Program)(fr:Frame)(d:Dying)(f:Fatal)(w:World):gD w.drawn (writeOn p fr d f w):=by
 unfold writeOn;simp only[];split
 ·trivial
 ·split
  ·rename_i h;exact Z5 h
  ·rename_i h;exact Z5 h
  ·trivial
  ·trivial
theorem j0d(p:Program)(main:Bool)(fr:Frame)(c:List Frame)(d:Option Dying)(v:Value)(w:World):gD w.drawn (doReturn p main fr c d v w):=by
 unfold doReturn;simp only[]
 repeat' first
  |exact zK _
  |trivial
  |split
theorem Lj(p:Program)(fr:Frame)(c:List Frame)(d:Option Dying)(g:Nat)(w:World):gD w.drawn (early p fr c d g w):=by
 unfold early;simp only[]
 repeat' first
  |exact zK _
  |trivial
  |(have h0:=of_run ‹Sem.run _ _ _=Result.ok _ _›;exact h0)
  |split
theorem u1l(p:Program)(fr:Frame)(d:Dying)(w:World):gD w.drawn (die p fr d w):=by
 unfold die;simp only[]
 repeat' first
  |exact zK _
  |trivial
  |exact z0v _ _ _ _ _
  |exact w09 _ _ _ _ _
  |(have h0:=of_run ‹Sem.run _ _ _=Result.ok _ _›;exact h0)
  |(have h0:=Db ‹(Sem.runT _ _ _ _).fst=Result.ok _ _›;exact h0)
  |exact(Hb _ _ _ _).le (Db ‹(Sem.runT _ _ _ _).fst=Result.halt _ _›)
  |(refine Ao.2 ?_)
  |split
theorem B4(p:Program)(fr:Frame)(c:List Frame)(dy:Option Dying)(d:Deferred)(w:World):gD w.drawn (callDeferred p fr c dy d w):=by
 unfold callDeferred;refine q2q trivial ?_
 ·generalize z1:(invoke d.target d.args).runT p w #[]=re;obtain⟨r,es⟩:=re;have hr:=Z5 z1;simp only[Ao];cases r with
  |ok n w'=>
   cases n<;>(try dsimp only)<;>repeat' first
    |exact hr
    |(have h0:=‹Result.ok _ _=Result.ok _ _›;simp at h0;done)
    |(have h0:=‹Result.ok _ _=Result.ok _ _›;simp only[Result.ok.injEq]at h0;obtain⟨_,rfl⟩:=h0;exact hr)
    |trivial
    |split
  |halt h w'=>
   cases h<;>(try dsimp only)<;>repeat' first
    |exact hr
    |(have h0:=‹Result.halt _ _=Result.halt _ _›;simp at h0;done)
    |(have h0:=‹Result.halt _ _=Result.halt _ _›;simp only[Result.halt.injEq]at h0;obtain⟨_,rfl⟩:=h0;exact hr)
    |(have h0:=‹Result.halt _ _=Result.halt _ _›;simp only[Result.halt.injEq]at h0;obtain⟨_,rfl⟩:=h0;exact(Lj _ _ _ _ _ _).le hr)
    |trivial
    |exact(w0j _ _ _ _ _ _).le hr
    |exact(Fs _ _ _).le hr
    |split
theorem j01(p:Program)(main:Bool)(fr:Frame)(c:List Frame)(dy:Option Dying)(w:World):gD w.drawn (unwind p main fr c dy w):=by
 unfold unwind;simp only[]
 repeat' first
  |exact zK _
  |trivial
  |exact B4 _ _ _ _ _ _
  |exact j0d _ _ _ _ _ _ _
  |exact Hb _ _ _ _
  |(have h0:=of_run ‹Sem.run _ _ _=Result.ok _ _›;exact h0)
  |(have h0:=Db ‹(Sem.runT _ _ _ _).fst=Result.ok _ _›;exact h0)
  |exact(j0d _ _ _ _ _ _ _).le (Db ‹(Sem.runT _ _ _ _).fst=Result.ok _ _›)
  |(refine Ao.2 ?_)
  |split
theorem Za(p:Program)(listen:Bool)(fr:Frame)(c:List Frame)(dy:Option Dying)(s:Sem Next)(w:World):gD w.drawn (stepG.apply p listen fr c dy s w):=by
 unfold stepG.apply;simp only[];generalize z1:(if listen=true then s.runT p w #[]else(s.run p w,#[]))=re;obtain⟨r,es⟩:=re;have hr:w.drawn≤rD r:=by
  split at z1
  ·exact Z5 z1
  ·have:=w0h p s w;rw[(Prod.mk.inj z1).1]at this;exact this
 simp only[Ao];cases r with
 |ok n w'=>
  cases n<;>(try dsimp only)<;>repeat' first
   |exact hr
   |(have h0:=‹Result.ok _ _=Result.ok _ _›;simp at h0;done)
   |(have h0:=‹Result.ok _ _=Result.ok _ _›;simp only[Result.ok.injEq]at h0;obtain⟨_,rfl⟩:=h0;exact hr)
   |trivial
   |exact(Fs _ _ _).le hr
   |split
 |halt h w'=>
  cases h<;>(try dsimp only)<;>repeat' first
   |exact hr
   |(have h0:=‹Result.halt _ _=Result.halt _ _›;simp at h0;done)
   |(have h0:=‹Result.halt _ _=Result.halt _ _›;simp only[Result.halt.injEq]at h0;obtain⟨_,rfl⟩:=h0;exact hr)
   |(have h0:=‹Result.halt _ _=Result.halt _ _›;simp only[Result.halt.injEq]at h0;obtain⟨_,rfl⟩:=h0;exact(Lj _ _ _ _ _ _).le hr)
   |trivial
   |exact(w0j _ _ _ _ _ _).le hr
   |exact(Fs _ _ _).le hr
   |exact(Lj _ _ _ _ _ _).le hr
   |split
theorem u1x(p:Program)(listen:Bool)(fr:Frame)(c:List Frame)(dy:Option Dying)(w:World):gD w.drawn (stepG.oper p listen fr c dy w):=by
 unfold stepG.oper
 repeat' first
  |trivial
  |exact Za _ _ _ _ _ _ _
  |split
theorem j1r(p:Program)(main listen:Bool)(fr:Frame)(c:List Frame)(dy:Option Dying)(w:World):gD w.drawn (stepG.exec p main listen fr c dy w):=by
 unfold stepG.exec;dsimp only
 repeat' first
  |exact zK _
  |trivial
  |exact Za _ _ _ _ _ _ _
  |exact u1x _ _ _ _ _ _
  |(simp only[Option.elim];split)
  |(have h0:=of_run ‹Sem.run _ _ _=Result.ok _ _›;exact h0)
  |(have h0:=Db ‹(Sem.runT _ _ _ _).fst=Result.ok _ _›;exact h0)
  |exact(Za _ _ _ _ _ _ _).le (Db ‹(Sem.runT _ _ _ _).fst=Result.ok _ _›)
  |(have h0:=Db ‹(Sem.runT _ _ _ _).fst=Result.halt _ _›;exact h0)
  |exact(j0d _ _ _ _ _ _ _).le (Db ‹(Sem.runT _ _ _ _).fst=Result.ok _ _›)
  |(refine Ao.2 ?_)
  |split
theorem u1h(p:Program)(main:Bool)(g:Goroutine)(w:World)(listen:Bool):gD w.drawn (stepG p main g w listen):=by
 unfold stepG;simp only[]
 repeat' first
  |exact u1l _ _ _ _
  |exact j1r _ _ _ _ _ _ _
  |exact j01 _ _ _ _ _ _
  |split
theorem k13{rest:Rest}{cases:Array CommCase}{w w':World}(h:waitingAt rest cases w=some w'):w'.drawn=w.drawn:=by
 unfold waitingAt at h
 repeat' first
  |(simp at h;done)
  |(simp only[Option.some.injEq]at h;subst h;rfl)
  |split at h
theorem u1c(p:Program)(rest:Rest)(gs:Array Goroutine)(i:Nat)(g:Goroutine)(cases:Array CommCase)(blocking:Bool)(shape:CommShape)(w:World)(m':Machine)(h:(communicate p rest gs i g cases blocking shape w).1= .next m'):w.drawn≤m'.world.drawn:=by
 unfold communicate at h;simp only[]at h
 repeat' first
  |(simp at h;done)
  |(simp only[Stepped.next.injEq]at h;subst h;exact zK _)
  |(simp only[Stepped.next.injEq]at h;subst h;have h0:=k13 ‹waitingAt _ _ _=some _›;exact tF h0.symm)
  |(simp only[Stepped.next.injEq]at h;subst h;rename Sem.run _ _ _=Result.ok _ _=>z0;have a0:=of_run z0;clear z0;simp only[rD,Machine.advanceTo]at a0 ⊢;omega)
  |(simp only[Stepped.next.injEq]at h;subst h;rename Sem.run _ _ _=Result.ok _ _=>z0;have a0:=of_run z0;clear z0;simp only[rD]at a0;omega)
  |(simp only[Stepped.next.injEq]at h;subst h;rename Sem.run _ _ _=Result.ok _ _=>z0;have a0:=of_run z0;clear z0;rename Sem.run _ _ _=Result.ok _ _=>z1;have a1:=of_run z1;clear z1;simp only[rD,Machine.advanceTo]at a0 a1 ⊢;omega)
  |(simp only[Stepped.next.injEq]at h;subst h;rename Sem.run _ _ _=Result.ok _ _=>z0;have a0:=of_run z0;clear z0;rename Sem.run _ _ _=Result.ok _ _=>z1;have a1:=of_run z1;clear z1;simp only[rD]at a0 a1;omega)
  |(simp only[Stepped.next.injEq]at h;subst h;rename Sem.run _ _ _=Result.ok _ _=>z0;have a0:=of_run z0;clear z0;rename Sem.run _ _ _=Result.ok _ _=>z1;have a1:=of_run z1;clear z1;rename Sem.run _ _ _=Result.ok _ _=>z2;have a2:=of_run z2;clear z2;simp only[rD,Machine.advanceTo]at a0 a1 a2 ⊢;omega)
  |(simp only[Stepped.next.injEq]at h;subst h;rename Sem.run _ _ _=Result.ok _ _=>z0;have a0:=of_run z0;clear z0;rename Sem.run _ _ _=Result.ok _ _=>z1;have a1:=of_run z1;clear z1;rename Sem.run _ _ _=Result.ok _ _=>z2;have a2:=of_run z2;clear z2;simp only[rD]at a0 a1 a2;omega)
  |(simp only[Stepped.next.injEq]at h;subst h;rename Sem.run _ _ _=Result.ok _ _=>z0;have a0:=of_run z0;clear z0;rename Sem.run _ _ _=Result.ok _ _=>z1;have a1:=of_run z1;clear z1;rename Sem.run _ _ _=Result.ok _ _=>z2;have a2:=of_run z2;clear z2;rename Sem.run _ _ _=Result.ok _ _=>z3;have a3:=of_run z3;clear z3;simp only[rD,Machine.advanceTo]at a0 a1 a2 a3 ⊢;omega)
  |(simp only[Stepped.next.injEq]at h;subst h;rename Sem.run _ _ _=Result.ok _ _=>z0;have a0:=of_run z0;clear z0;rename Sem.run _ _ _=Result.ok _ _=>z1;have a1:=of_run z1;clear z1;rename Sem.run _ _ _=Result.ok _ _=>z2;have a2:=of_run z2;clear z2;rename Sem.run _ _ _=Result.ok _ _=>z3;have a3:=of_run z3;clear z3;simp only[rD]at a0 a1 a2 a3;omega)
  |(simp only[Stepped.next.injEq]at h;subst h;rename Sem.run _ _ _=Result.halt _ _=>z0;have a0:=of_run z0;clear z0;rename Sem.run _ _ _=Result.ok _ _=>z1;have a1:=of_run z1;clear z1;simp only[rD,Machine.advanceTo]at a0 a1 ⊢;omega)
  |(simp only[Stepped.next.injEq]at h;subst h;rename Sem.run _ _ _=Result.halt _ _=>z0;have a0:=of_run z0;clear z0;rename Sem.run _ _ _=Result.ok _ _=>z1;have a1:=of_run z1;clear z1;simp only[rD]at a0 a1;omega)
  |split at h
theorem Tm(p:Program)(m m':Machine)(k:Nat)(h:serve p m k= .next m'):m.world.drawn≤m'.world.drawn:=by
 unfold serve at h;simp only[]at h
 repeat' first
  |(simp at h;done)
  |(simp only[Stepped.next.injEq]at h;subst h;exact zK _)
  |split at h
theorem Mc(p:Program)(gs:Array Goroutine)(rest:Rest)(w:World)(m':Machine)(h:Go.look p gs rest w= .next m'):w.drawn≤m'.world.drawn:=by
 unfold Go.look at h;simp only[]at h
 repeat' first
  |(simp at h;done)
  |(simp only[Stepped.next.injEq]at h;subst h;have h0:=of_run ‹Sem.run _ _ _=Result.ok _ _›;exact h0)
  |split at h
theorem q1d{fr:Frame}{m:String}{w w':World}{g:Goroutine}{es:Array Event}(h:endThrow fr m w= .go g w' es):w'=w:=by unfold endThrow dieOf at h;simp only[GStep.go.injEq]at h;exact h.2.1.symm
theorem d0y(m:Machine)(k:Nat)(t:Timer)(a b:Nat):(retime m k t a b).2.world.drawn=m.world.drawn:=by
 unfold retime drain;simp only[]
 repeat' first
  |rfl
  |split
theorem d0b{m m':Machine}{v:Addr}(h:timerOp.opened m v=some m'):m'.world.drawn=m.world.drawn:=by
 unfold timerOp.opened at h
 repeat' first
  |(simp at h;done)
  |(simp only[Option.some.injEq]at h;subst h;rfl)
  |split at h
theorem M3{m m' m1:Machine}{x:Addr}{v:Value}{a:Timer→Nat}{b:Timer→Nat}(h:timerOp.named m x (fun k t=>retime m1 k t (a t) (b t))= .ok (v,m')):m'.world.drawn=m1.world.drawn:=by
 unfold timerOp.named at h;split at h
 ·simp only[Except.ok.injEq]at h;have:=congrArg Prod.snd h;simp only at this;rw[←this];exact d0y _ _ _ _ _
 ·cases h
theorem w15(m m':Machine)(op:TimerOp)(v:Value)(h:timerOp m op= .ok (v,m')):m'.world.drawn=m.world.drawn:=by
 unfold timerOp at h
 repeat' first
  |(simp at h;done)
  |(simp only[Except.ok.injEq,Prod.mk.injEq]at h;obtain⟨_,rfl⟩:=h;rfl)
  |exact M3 (a:=fun _=>0) (b:=fun t=>t.period) h
  |(have h0:=d0b ‹timerOp.opened _ _=some _›;rw[←h0];exact M3 (a:=fun _=>_) (b:=fun _=>_) h)
  |split at h
theorem u1j(p:Program)(m m':Machine)(i:Nat)(b:Bool)(h:(runT p m i b).1= .next m'):m.world.drawn≤m'.world.drawn:=by
 simp only[runT]at h;revert h;generalize m.gs.swapAt! i _=gg;have hs:=u1h p (i==0) gg.1 m.world b;revert hs;generalize stepG p (i==0) gg.1 m.world b=s;intro hs h;cases s<;>simp only[]at h;all_goals first
  |(simp at h;done)
  |exact yP hs (u1c _ _ _ _ _ _ _ _ _ _ h)
  |exact yP hs (Mc _ _ _ _ _ h)
  |(simp only[Stepped.next.injEq]at h;subst h;exact hs)
  |(repeat' first
    |(simp at h;done)
    |(simp only[Stepped.next.injEq]at h;subst h;exact hs)
    |(simp only[Stepped.next.injEq]at h;subst h;have h0:=q1d ‹endThrow _ _ _=_›;subst h0;exact hs)
    |(simp only[Stepped.next.injEq]at h;subst h;have:=w15 _ _ _ _ (by assumption);exact yP hs (tF this.symm))
    |split at h)
theorem Lu(p:Program)(m m':Machine)(ops:Array MemOp)(h:askOn p m= .machine (.next m') ops):m.world.drawn≤m'.world.drawn:=by
 unfold askOn at h;simp only[]at h
 repeat' first
  |(simp at h;done)
  |(simp only[Move.machine.injEq]at h;have h9:=Tm _ _ _ _ h.1;dsimp only at h9;rename Sem.run _ _ _=Result.ok _ _=>z0;have a0:=of_run z0;clear z0;simp only[rD,Machine.advanceTo]at a0 ⊢;omega)
  |(simp only[Move.machine.injEq]at h;have h9:=Tm _ _ _ _ h.1;dsimp only at h9;rename Sem.run _ _ _=Result.ok _ _=>z0;have a0:=of_run z0;clear z0;simp only[rD]at a0;omega)
  |(simp only[Move.machine.injEq]at h;have h9:=Tm _ _ _ _ h.1;dsimp only at h9;rename Sem.run _ _ _=Result.ok _ _=>z0;have a0:=of_run z0;clear z0;rename Sem.run _ _ _=Result.ok _ _=>z1;have a1:=of_run z1;clear z1;simp only[rD,Machine.advanceTo]at a0 a1 ⊢;omega)
  |(simp only[Move.machine.injEq]at h;have h9:=Tm _ _ _ _ h.1;dsimp only at h9;rename Sem.run _ _ _=Result.ok _ _=>z0;have a0:=of_run z0;clear z0;rename Sem.run _ _ _=Result.ok _ _=>z1;have a1:=of_run z1;clear z1;simp only[rD]at a0 a1;omega)
  |(simp only[Move.machine.injEq]at h;have h9:=Tm _ _ _ _ h.1;dsimp only at h9;rename Sem.run _ _ _=Result.ok _ _=>z0;have a0:=of_run z0;clear z0;rename Sem.run _ _ _=Result.ok _ _=>z1;have a1:=of_run z1;clear z1;rename Sem.run _ _ _=Result.ok _ _=>z2;have a2:=of_run z2;clear z2;simp only[rD,Machine.advanceTo]at a0 a1 a2 ⊢;omega)
  |(simp only[Move.machine.injEq]at h;have h9:=Tm _ _ _ _ h.1;dsimp only at h9;rename Sem.run _ _ _=Result.ok _ _=>z0;have a0:=of_run z0;clear z0;rename Sem.run _ _ _=Result.ok _ _=>z1;have a1:=of_run z1;clear z1;rename Sem.run _ _ _=Result.ok _ _=>z2;have a2:=of_run z2;clear z2;simp only[rD]at a0 a1 a2;omega)
  |(simp only[Move.machine.injEq]at h;have h9:=Tm _ _ _ _ h.1;dsimp only at h9;rename Sem.run _ _ _=Result.ok _ _=>z0;have a0:=of_run z0;clear z0;rename Sem.run _ _ _=Result.ok _ _=>z1;have a1:=of_run z1;clear z1;rename Sem.run _ _ _=Result.ok _ _=>z2;have a2:=of_run z2;clear z2;rename Sem.run _ _ _=Result.ok _ _=>z3;have a3:=of_run z3;clear z3;simp only[rD,Machine.advanceTo]at a0 a1 a2 a3 ⊢;omega)
  |(simp only[Move.machine.injEq]at h;have h9:=Tm _ _ _ _ h.1;dsimp only at h9;rename Sem.run _ _ _=Result.ok _ _=>z0;have a0:=of_run z0;clear z0;rename Sem.run _ _ _=Result.ok _ _=>z1;have a1:=of_run z1;clear z1;rename Sem.run _ _ _=Result.ok _ _=>z2;have a2:=of_run z2;clear z2;rename Sem.run _ _ _=Result.ok _ _=>z3;have a3:=of_run z3;clear z3;simp only[rD]at a0 a1 a2 a3;omega)
  |(simp only[Move.machine.injEq]at h;have h9:=Tm _ _ _ _ h.1;dsimp only at h9;rename Sem.run _ _ _=Result.halt _ _=>z0;have a0:=of_run z0;clear z0;rename Sem.run _ _ _=Result.ok _ _=>z1;have a1:=of_run z1;clear z1;simp only[rD,Machine.advanceTo]at a0 a1 ⊢;omega)
  |(simp only[Move.machine.injEq]at h;have h9:=Tm _ _ _ _ h.1;dsimp only at h9;rename Sem.run _ _ _=Result.halt _ _=>z0;have a0:=of_run z0;clear z0;rename Sem.run _ _ _=Result.ok _ _=>z1;have a1:=of_run z1;clear z1;simp only[rD]at a0 a1;omega)
  |(simp only[Move.machine.injEq,Stepped.next.injEq]at h;rw[←h.1];rename Sem.run _ _ _=Result.ok _ _=>z0;have a0:=of_run z0;clear z0;simp only[rD,Machine.advanceTo]at a0 ⊢;omega)
  |(simp only[Move.machine.injEq,Stepped.next.injEq]at h;rw[←h.1];rename Sem.run _ _ _=Result.ok _ _=>z0;have a0:=of_run z0;clear z0;simp only[rD]at a0;omega)
  |(simp only[Move.machine.injEq,Stepped.next.injEq]at h;rw[←h.1];rename Sem.run _ _ _=Result.ok _ _=>z0;have a0:=of_run z0;clear z0;rename Sem.run _ _ _=Result.ok _ _=>z1;have a1:=of_run z1;clear z1;simp only[rD,Machine.advanceTo]at a0 a1 ⊢;omega)
  |(simp only[Move.machine.injEq,Stepped.next.injEq]at h;rw[←h.1];rename Sem.run _ _ _=Result.ok _ _=>z0;have a0:=of_run z0;clear z0;rename Sem.run _ _ _=Result.ok _ _=>z1;have a1:=of_run z1;clear z1;simp only[rD]at a0 a1;omega)
  |(simp only[Move.machine.injEq,Stepped.next.injEq]at h;rw[←h.1];rename Sem.run _ _ _=Result.ok _ _=>z0;have a0:=of_run z0;clear z0;rename Sem.run _ _ _=Result.ok _ _=>z1;have a1:=of_run z1;clear z1;rename Sem.run _ _ _=Result.ok _ _=>z2;have a2:=of_run z2;clear z2;simp only[rD,Machine.advanceTo]at a0 a1 a2 ⊢;omega)
  |(simp only[Move.machine.injEq,Stepped.next.injEq]at h;rw[←h.1];rename Sem.run _ _ _=Result.ok _ _=>z0;have a0:=of_run z0;clear z0;rename Sem.run _ _ _=Result.ok _ _=>z1;have a1:=of_run z1;clear z1;rename Sem.run _ _ _=Result.ok _ _=>z2;have a2:=of_run z2;clear z2;simp only[rD]at a0 a1 a2;omega)
  |(simp only[Move.machine.injEq,Stepped.next.injEq]at h;rw[←h.1];rename Sem.run _ _ _=Result.ok _ _=>z0;have a0:=of_run z0;clear z0;rename Sem.run _ _ _=Result.ok _ _=>z1;have a1:=of_run z1;clear z1;rename Sem.run _ _ _=Result.ok _ _=>z2;have a2:=of_run z2;clear z2;rename Sem.run _ _ _=Result.ok _ _=>z3;have a3:=of_run z3;clear z3;simp only[rD,Machine.advanceTo]at a0 a1 a2 a3 ⊢;omega)
  |(simp only[Move.machine.injEq,Stepped.next.injEq]at h;rw[←h.1];rename Sem.run _ _ _=Result.ok _ _=>z0;have a0:=of_run z0;clear z0;rename Sem.run _ _ _=Result.ok _ _=>z1;have a1:=of_run z1;clear z1;rename Sem.run _ _ _=Result.ok _ _=>z2;have a2:=of_run z2;clear z2;rename Sem.run _ _ _=Result.ok _ _=>z3;have a3:=of_run z3;clear z3;simp only[rD]at a0 a1 a2 a3;omega)
  |(simp only[Move.machine.injEq,Stepped.next.injEq]at h;rw[←h.1];rename Sem.run _ _ _=Result.halt _ _=>z0;have a0:=of_run z0;clear z0;rename Sem.run _ _ _=Result.ok _ _=>z1;have a1:=of_run z1;clear z1;simp only[rD,Machine.advanceTo]at a0 a1 ⊢;omega)
  |(simp only[Move.machine.injEq,Stepped.next.injEq]at h;rw[←h.1];rename Sem.run _ _ _=Result.halt _ _=>z0;have a0:=of_run z0;clear z0;rename Sem.run _ _ _=Result.ok _ _=>z1;have a1:=of_run z1;clear z1;simp only[rD]at a0 a1;omega)
  |split at h
theorem Zs(p:Program)(m m':Machine)(i:Nat)(h:askOn p m= .goroutine m' i):m.world.drawn≤m'.world.drawn:=by
 unfold askOn at h;simp only[]at h
 repeat' first
  |(simp at h;done)
  |(simp only[Move.goroutine.injEq]at h;rw[←h.1];rename Sem.run _ _ _=Result.ok _ _=>z0;have a0:=of_run z0;clear z0;simp only[rD,Machine.advanceTo]at a0 ⊢;omega)
  |(simp only[Move.goroutine.injEq]at h;rw[←h.1];rename Sem.run _ _ _=Result.ok _ _=>z0;have a0:=of_run z0;clear z0;simp only[rD]at a0;omega)
  |(simp only[Move.goroutine.injEq]at h;rw[←h.1];rename Sem.run _ _ _=Result.ok _ _=>z0;have a0:=of_run z0;clear z0;rename Sem.run _ _ _=Result.ok _ _=>z1;have a1:=of_run z1;clear z1;simp only[rD,Machine.advanceTo]at a0 a1 ⊢;omega)
  |(simp only[Move.goroutine.injEq]at h;rw[←h.1];rename Sem.run _ _ _=Result.ok _ _=>z0;have a0:=of_run z0;clear z0;rename Sem.run _ _ _=Result.ok _ _=>z1;have a1:=of_run z1;clear z1;simp only[rD]at a0 a1;omega)
  |(simp only[Move.goroutine.injEq]at h;rw[←h.1];rename Sem.run _ _ _=Result.ok _ _=>z0;have a0:=of_run z0;clear z0;rename Sem.run _ _ _=Result.ok _ _=>z1;have a1:=of_run z1;clear z1;rename Sem.run _ _ _=Result.ok _ _=>z2;have a2:=of_run z2;clear z2;simp only[rD,Machine.advanceTo]at a0 a1 a2 ⊢;omega)
  |(simp only[Move.goroutine.injEq]at h;rw[←h.1];rename Sem.run _ _ _=Result.ok _ _=>z0;have a0:=of_run z0;clear z0;rename Sem.run _ _ _=Result.ok _ _=>z1;have a1:=of_run z1;clear z1;rename Sem.run _ _ _=Result.ok _ _=>z2;have a2:=of_run z2;clear z2;simp only[rD]at a0 a1 a2;omega)
  |(simp only[Move.goroutine.injEq]at h;rw[←h.1];rename Sem.run _ _ _=Result.ok _ _=>z0;have a0:=of_run z0;clear z0;rename Sem.run _ _ _=Result.ok _ _=>z1;have a1:=of_run z1;clear z1;rename Sem.run _ _ _=Result.ok _ _=>z2;have a2:=of_run z2;clear z2;rename Sem.run _ _ _=Result.ok _ _=>z3;have a3:=of_run z3;clear z3;simp only[rD,Machine.advanceTo]at a0 a1 a2 a3 ⊢;omega)
  |(simp only[Move.goroutine.injEq]at h;rw[←h.1];rename Sem.run _ _ _=Result.ok _ _=>z0;have a0:=of_run z0;clear z0;rename Sem.run _ _ _=Result.ok _ _=>z1;have a1:=of_run z1;clear z1;rename Sem.run _ _ _=Result.ok _ _=>z2;have a2:=of_run z2;clear z2;rename Sem.run _ _ _=Result.ok _ _=>z3;have a3:=of_run z3;clear z3;simp only[rD]at a0 a1 a2 a3;omega)
  |(simp only[Move.goroutine.injEq]at h;rw[←h.1];rename Sem.run _ _ _=Result.halt _ _=>z0;have a0:=of_run z0;clear z0;rename Sem.run _ _ _=Result.ok _ _=>z1;have a1:=of_run z1;clear z1;simp only[rD,Machine.advanceTo]at a0 a1 ⊢;omega)
  |(simp only[Move.goroutine.injEq]at h;rw[←h.1];rename Sem.run _ _ _=Result.halt _ _=>z0;have a0:=of_run z0;clear z0;rename Sem.run _ _ _=Result.ok _ _=>z1;have a1:=of_run z1;clear z1;simp only[rD]at a0 a1;omega)
  |split at h
theorem d1g(p:Program)(m m':Machine)(ops:Array MemOp)(h:ask p m= .machine (.next m') ops):m.world.drawn≤m'.world.drawn:=by
 unfold ask at h;split at h
 ·split at h
  ·cases h
  ·rename_i hr;split at h
   ·rename_i hl;exact yP (v0q hr) (yP (Mc _ _ _ _ _ hl) (Lu _ _ _ _ h))
   ·rename_i hl;simp only[Move.machine.injEq]at h;exact absurd h.1 (hl _)
  ·rename_i hr;exact yP (v0q hr) (Lu p { m with world:=_ } _ _ h)
 ·exact Lu _ _ _ _ h
theorem f1z(p:Program)(m m':Machine)(i:Nat)(h:ask p m= .goroutine m' i):m.world.drawn≤m'.world.drawn:=by
 unfold ask at h;split at h
 ·split at h
  ·cases h
  ·rename_i hr;split at h
   ·rename_i hl;exact yP (v0q hr) (yP (Mc _ _ _ _ _ hl) (Zs _ _ _ _ h))
   ·cases h
  ·rename_i hr;exact yP (v0q hr) (Zs p { m with world:=_ } _ _ h)
 ·exact Zs _ _ _ _ h
theorem q2j(p:Program)(m m':Machine)(ops:Array MemOp)(h:move p m= .machine (.next m') ops):m.world.drawn≤m'.world.drawn:=by
 unfold move at h
 repeat' first
  |(simp at h;done)
  |exact d1g _ _ _ _ h
  |(have h0:=d1g _ _ _ _ h;exact h0)
  |split at h
theorem c1y(p:Program)(m m':Machine)(i:Nat)(h:move p m= .goroutine m' i):m.world.drawn≤m'.world.drawn:=by
 unfold move at h
 repeat' first
  |(simp at h;done)
  |(simp only[Move.goroutine.injEq]at h;rw[←h.1];exact zK _)
  |exact f1z _ _ _ _ h
  |(have h0:=f1z _ _ _ _ h;exact h0)
  |split at h
theorem k1s(p:Program)(m m':Machine)(h:step p m= .next m'):m.world.drawn≤m'.world.drawn:=by
 unfold Go.step Go.stepT at h;split at h
 ·rename_i hm;exact yP (c1y _ _ _ _ hm) (u1j _ _ _ _ _ h)
 ·rename_i hm;simp only at h;subst h;exact q2j _ _ _ _ hm
theorem j0g(p:Program):∀(n:Nat) (m m':Machine),runN p n m= .next m'→m.world.drawn≤m'.world.drawn
 |0,m,m',h=>by unfold runN at h;cases h;exact zK _
 |n+1,m,m',h=>by
  unfold runN at h;split at h
  ·rename_i hs;exact yP (k1s _ _ _ hs) (j0g p n _ _ h)
  ·rename_i hs;exact absurd h (hs _)
theorem w1o{P:Program}{f:FuncId}{args:Array Value}{w:World}{R:Ending→World→Prop}(h:Calls P f args w R):
  Calls P f args w fun e w'=>R e w'∧∀v,e= .returned v→w.drawn≤w'.drawn:=fun cs=>by
 obtain⟨e,w',fr,hR,hc,h1,h2⟩:=h cs;refine⟨e,w',fr,⟨hR,fun v hv=> ?_⟩,hc,h1,h2⟩;subst hv;obtain⟨n,hn⟩:=hc;exact j0g P n _ _ hn
end Go.Abs
namespace Go.Abs
open Go Go.Sort Go.RowKit
structure RowW (w:World) (I:Nat→Prop) (k:Nat) (xs:List AV) (F:Array Value):Prop where
 size:F.size=xs.length * k
 width:∀x∈xs,x.cells.length=k
 cell:∀(i:Nat) (x:AV),xs[i]? =some x→∀(j:Nat) (y:AV),x.cells[j]? =some y→PVR w I F[i * k+j]! y
theorem EOK.same{P:Program}[Env P]{w w':World}{I:Nat→Prop}(h:EOK P w I)(hs:∀b,I b→w'.heap[b]? =w.heap[b]?):EOK P w' I:=fun g pr hm=>by obtain⟨h1,cs,t,fr,h2,h3⟩:=h g pr hm;exact⟨h1,cs,t,fr,h2,by rw[hs g h1];exact h3⟩
section
variable {W0:World} {I0:Nat→Prop} {w:World} {I:Nat→Prop} {m:Nat→Option Nat} {H:List AObj} {p b:Nat} {e:TypeId} {k:Nat} {xs:List AV}
theorem z1m(z6:WS W0 I0 w I m H)(ho:H[p]? =some (.arr e k xs))(hm:m p=some b):(∃F,RowW w I k xs F∧Holds id w b 0 F)∧b<w.heap.size∧¬I b:=by
 obtain⟨_,hI,hb⟩:=z6.own p _ b ho rfl hm;refine⟨?_,hb,hI⟩;rcases z6.obj p _ ho with⟨e1,_⟩|⟨b',cap,vs,z7,hh,q1,q2,q3,q4,hr⟩
 ·rw[hm]at e1;cases e1
 obtain rfl:b=b':=by rw[hm]at z7;exact Option.some.inj z7
 have hcap:xs.length * k≤vs.size:=by rw[q3];exact zS k q1
 have z1:(vs.extract 0 (xs.length * k)).size=xs.length * k:=by simp;omega
 refine⟨vs.extract 0 (xs.length * k),⟨z1,q4,fun i x hx j y hy=> ?_⟩,fun j hj=> ?_⟩
 ·obtain⟨v,hv,hp⟩:=hr i x hx j y hy;have hi:i<xs.length:=(zA.1 hx).1;have hj:j<k:=by have:=q4 x (zF hx);rw[←this];exact(zA.1 hy).1
  have z8:i * k+j<xs.length * k:=by have:=zS k (show i+1≤xs.length from hi);rw[zX,tw]at this;omega
  rw[getElem!_pos _ _ (by rw[z1];exact z8)];have:(vs.extract 0 (xs.length * k))[i * k+j]'(by rw[z1];exact z8)=v:=by have h2:=(yB.1 hv).2;simp[h2]
  rw[this];exact hp
 ·rw[z1]at hj;have za:j<vs.size:=by omega
  have:(vs.extract 0 (xs.length * k))[j]! =vs[j]:=by rw[getElem!_pos _ _ (by rw[z1];exact hj)];simp
  rw[this];simp[World.cell?,World.frozen?,hh,za]
theorem w1a(z8:WS W0 I0 w I m H)(ho:H[p]? =some (.arr e k xs))(hm:m p=some b){F:Array Value}(hF:RowW w I k xs F){z1:List AV}{F':Array Value}(hl:z1.length=xs.length)(z7:RowW w I k z1 F')(n:Nat)(os:Array Obj):
  WS W0 I0 (grow (putRow id (Sort.ahead w n) b 0 F') os) I m (H.set p (.arr e k z1))∧Fut H.length w I m (grow (putRow id (Sort.ahead w n) b 0 F') os) I m:=by
 obtain⟨_,_,hb⟩:=z8.own p _ b ho rfl hm;rcases z8.obj p _ ho with⟨e1,_⟩|⟨b',cap,vs,zb,hh,q1,q2,q3,q4,hr⟩
 ·rw[hm]at e1;cases e1
 obtain rfl:b=b':=by rw[hm]at zb;exact Option.some.inj zb
 have z6:∀c,c<w.heap.size→(grow (putRow id (Sort.ahead w n) b 0 F') os).heap[c]? =if b=c then(w.heap[c]?).map (onCells (putCells id 0 F'))else w.heap[c]? :=by intro c hc;simp only[grow,putRow,mapBlock,Sort.ahead];rw[yH (by simpa using hc),wQ]
 have zc:(grow (putRow id (Sort.ahead w n) b 0 F') os).heap[b]? =some (.cells (putCells id 0 F' vs) e (0,0)):=by rw[z6 b hb,if_pos rfl,hh];rfl
 have hg:w.grownBy (grow (putRow id (Sort.ahead w n) b 0 F') os) (some b):=⟨rfl,rfl,rfl,by simp[grow,putRow,mapBlock,Sort.ahead],fun c hc zd=>by
  rw[z6 c hc,if_neg (fun h=>zd (by rw[h]))]⟩
 refine z8.set (o':= .arr e k z1) ho rfl hm hg (fun s hs=> ?_) (fun m' hf=> .inr ⟨b,cap,putCells id 0 F' vs,rfl,zc,by omega,q2,by simp[putCells,q3],z7.width,fun i x hx j y hy=> ?_⟩)
 ·simp only[World.shape?,hh]at hs;simp only[World.shape?,zc];simpa[putCells]using hs
 ·have hi:i<z1.length:=(zA.1 hx).1;have hj:j<k:=by have:=z7.width x (zF hx);rw[←this];exact(zA.1 hy).1
  have ze:i * k+j<z1.length * k:=by have:=zS k (show i+1≤z1.length from hi);rw[zX,tw]at this;omega
  have za:i * k+j<vs.size:=by rw[q3];have:=zS k (show z1.length≤cap by omega);omega
  refine⟨F'[i * k+j]!,?_,(z7.cell i x hx j y hy).mono hf.ext⟩;have:=z7.size;simp only[putCells,Array.getElem?_mapIdx,yL za,wB];rw[if_pos (by omega)];rfl
theorem u0d {P:Program} [Env P] {f:FuncId} {rest:List AV} (hc:Tl P f) {len:Nat} (zb:xs.length=len) (ho:H[p]? =some (.arr e k xs))
  (us:List Value) (hu:∀(w:World) (I:Nat→Prop) (m:Nat→Option Nat) (vs:List Value),vs.length=rest.length→(∀(i:Nat) (v:Value) (x:AV),vs[i]? =some v→rest[i]? =some x→VR w I m H.length v x)→vs=us)
  (Rx:List AV→Prop)
  (h:∀(w:World) (I:Nat→Prop) (b cap:Nat) (F:Array Value),EOK P w I→(∀c,I c→c<w.heap.size)→¬I b→RowW w I k xs F→Holds id w b 0 F→b<w.heap.size→len≤cap→Calls P f (#[.slice (some ⟨b,0,none⟩) len cap]++us.toArray) w fun en w'=>en= .returned (.tuple #[])∧∃(z1:List AV) (F':Array Value) (n:Nat) (os:Array Obj),Rx z1∧z1.length=xs.length∧RowW w I k z1 F'∧w'=grow (putRow id (Sort.ahead w n) b 0 F') os)
  (h0:xs=[]→Rx []∧∀(w:World),Calls P f (#[.slice none 0 0]++us.toArray) w fun en w'=>en= .returned (.tuple #[])∧w'=w):
  FC P f (.sl p k 0 len::rest) H (fun r H'=>r= .tup []∧∃z1,Rx z1∧H'=H.set p (.arr e k z1)):=by
 refine⟨hc,fun W0 I0 w I m vals hE z6 z8 hv=> ?_⟩;rcases vals with⟨vals⟩
 cases vals with
 |nil=>simp at z8
 |cons v vs=>
  have zc:vs=us:=hu w I m vs (by simpa using z8) fun i v x a b=>hv (i+1) v x (by simpa using a) (by simpa using b);subst zc;have zd:=hv 0 v _ rfl rfl;have tupR:∀(w:World) (I:Nat→Prop) (m:Nat→Option Nat) (n:Nat),VR w I m n (.tuple #[]) (.tup []):=fun w I m n=> .tup _ _ rfl (fun i v x a=>by simp at a);rcases zd.sl_inv with⟨b,cap,t,hb,hn,zg,hle,hmax,z7⟩|⟨hb,hn,_,ze,z7⟩|⟨_,_,hlo,_,_⟩
  ·subst z7;obtain⟨⟨F,g0,g1⟩,g2,g3⟩:=z1m z6 ho hb;have:=h w I b cap F (hE.go z6.below z6.i0) (fun c hc=>(z6.iw c hc).1) g3 g0 g1 g2 hle;simp only[ul];refine Calls.mono (by rw[Fq]at this;exact this) ?_;rintro en w' ⟨rfl,z1,F',n,os,hx,hl,zf,rfl⟩;obtain⟨k1,k2⟩:=w1a z6 ho hb g0 hl zf n os;exact⟨_,_,_,I,m,⟨rfl,z1,hx,rfl⟩,rfl,k1,by simp,k2,tupR _ _ _ _⟩
  ·subst z7;have za:xs=[]:=by cases xs with|nil=>rfl|cons=>simp at zb;omega
   obtain⟨r0,r1⟩:=h0 za;subst ze;refine Calls.mono (by have:=r1 w;rw[Fq]at this;exact this) ?_;rintro en w' ⟨rfl,rfl⟩;refine⟨_,_,H,I,m,⟨rfl,[],r0,?_⟩,rfl,z6,zK _,.refl _ _ _ _,tupR _ _ _ _⟩;rw[←za];exact(xD fun i=>by
    by_cases hi:i=p
    ·subst hi;rw[ho,zH (zA.1 ho).1]
    ·rw[zB (fun h=>hi h.symm)])
  ·omega
end
theorem grown_of{w w':World}(hb:Below w.heap.size w w')(hd:w.drawn≤w'.drawn):∃q os,w'=grow (w.drewN q) os:=by
 refine⟨w'.drawn - w.drawn,w'.heap.extract w.heap.size w'.heap.size,?_⟩;have h1:=hb.os;have h2:=hb.tape;have h3:=hb.output;have h4:=hb.size;have h5:=hb.block;have hh:w'.heap=w.heap++w'.heap.extract w.heap.size w'.heap.size:=by
  refine Array.ext_getElem? fun i=> ?_;by_cases hi:i<w.heap.size
  ·rw[h5 i hi,yH hi]
  ·rw[vF (by omega),Array.getElem?_extract];by_cases hi2:i<w'.heap.size
   ·rw[if_pos (by omega),show w.heap.size+(i - w.heap.size)=i by omega]
   ·rw[if_neg (by omega),Array.getElem?_eq_none (by omega)]
 cases w';simp only at h1 h2 h3 hh hd;subst h1 h2 h3;simp only[grow,World.drewN,World.mk.injEq,true_and,and_true];exact⟨hh,by omega⟩
theorem PC.laid {P:Program} [Env P] {f:FuncId} {xs:List AV} {z:Int} (h:PC P f xs (fun r=>r= .int .i64 z)) {w W:World} {I:Nat→Prop} (hE:EOK P w I) (hI:∀c,I c→c<w.heap.size) (hW:∀c,I c→W.heap[c]? =w.heap[c]?) {vals:Array Value} (hs:vals.size=xs.length)
  (hv:∀(i:Nat) (v:Value) (x:AV),vals[i]? =some v→xs[i]? =some x→PVR w I v x):
  Calls P f vals W fun e w'=>e= .returned (.int .i64 z)∧∃q os,w'=grow (W.drewN q) os:=by
 have z1:∀c,I c→c<W.heap.size:=fun c hc=>by have h1:=yL (hI c hc);rw[←hW c hc]at h1;exact(yB.1 h1).1
 have hx:Ext w W I I:=⟨fun _ h=>h,hW⟩
 refine(w1o (h.2 W I vals (hE.same hW) z1 hs fun i v x a b=>(hv i v x a b).mono hx)).mono ?_;rintro e w' ⟨⟨v,I',r,rfl,rfl,hb,_,_,hp⟩,hd⟩;cases hp;exact⟨rfl,grown_of hb (hd _ rfl)⟩
end Go.Abs
namespace Go.Abs
open Go Go.RowKit Go.Maps
section
variable {P:Program} [Env P] {T:TT} {nt k:Nat} {S:AS} {ops:Array Oper} {o:Oper} {R:AS→Prop}
end
end Go.Abs
/-
 DERIVED:THE SHELF's CONTRACTS AT THIS DUMP,IN PLAIN WORDS (tools/lay-plain.mjs out of 'TryzShelf.lean',which tools/lay-shelf.mjs wrote):THE SAME DECLARATIONS UNDER THE SAME NAMES:'import','namespace','open','def','theorem' AND NOTHING ELSE:no command of the shelf's:FOR A HAND-IN. Each laying:the table of numbers ('.._ren') and one theorem,a field a fact of the dump's own or the kernel's comparison;each contract:ONE APPLICATION.
-/
namespace Go.Proofs
open Go.Shelf
def Tryz.lays189_ren:Go.Shelf.Ren:=⟨fun|189=>171|125=>199|257=>223|128=>244|129=>245|294=>253|295=>254|296=>255|297=>256|298=>257|299=>258|216=>259|300=>260|301=>261|328=>299|329=>292|330=>293|331=>300|332=>301|215=>200|343=>317|n=>n,fun|28=>47|3=>3|46=>189|0=>0|51=>255|53=>258|4=>4|183=>291|182=>290|131=>112|5=>5|9=>9|218=>327|222=>331|228=>349|229=>350|n=>n,fun|n=>n⟩
theorem Tryz.lays189:Go.Proofs.Lays.n189 Tryz.prog Tryz.lays189_ren:={
 mixed:=by kernel_rfl
 f125:=Tryz.func199.trans (congrArg some (by kernel_rfl))
 f128:=Tryz.func244.trans (congrArg some (by kernel_rfl))
 f129:=Tryz.func245.trans (congrArg some (by kernel_rfl))
 f189:=Tryz.func171.trans (congrArg some (by kernel_rfl))
 f215:=Tryz.func200.trans (congrArg some (by kernel_rfl))
 f216:=Tryz.func259.trans (congrArg some (by kernel_rfl))
 f257:=Tryz.func223.trans (congrArg some (by kernel_rfl))
 f294:=Tryz.func253.trans (congrArg some (by kernel_rfl))
 f295:=Tryz.func254.trans (congrArg some (by kernel_rfl))
 f296:=Tryz.func255.trans (congrArg some (by kernel_rfl))
 f297:=Tryz.func256.trans (congrArg some (by kernel_rfl))
 f298:=Tryz.func257.trans (congrArg some (by kernel_rfl))
 f299:=Tryz.func258.trans (congrArg some (by kernel_rfl))
 f300:=Tryz.func260.trans (congrArg some (by kernel_rfl))
 f301:=Tryz.func261.trans (congrArg some (by kernel_rfl))
 f328:=Tryz.func299.trans (congrArg some (by kernel_rfl))
 f329:=Tryz.func292.trans (congrArg some (by kernel_rfl))
 f330:=Tryz.func293.trans (congrArg some (by kernel_rfl))
 f331:=Tryz.func300.trans (congrArg some (by kernel_rfl))
 f332:=Tryz.func301.trans (congrArg some (by kernel_rfl))
 f343:=Tryz.func317.trans (congrArg some (by kernel_rfl))
 t0:=Tryz.underlying0
 a0:=Tryz.isAgg0
 z0:=Tryz.sizeOf0
 v0:=Tryz.zeroValue0
 t3:=Tryz.underlying3
 a3:=Tryz.isAgg3
 z3:=Tryz.sizeOf3
 v3:=Tryz.zeroValue3
 t4:=Tryz.underlying4
 a4:=Tryz.isAgg4
 z4:=Tryz.sizeOf4
 v4:=Tryz.zeroValue4
 t5:=Tryz.underlying5
 a5:=Tryz.isAgg5
 z5:=Tryz.sizeOf5
 v5:=Tryz.zeroValue5
 t9:=Tryz.underlying9
 a9:=Tryz.isAgg9
 z9:=Tryz.sizeOf9
 v9:=Tryz.zeroValue9
 t28:=Tryz.underlying47
 a28:=Tryz.isAgg47
 z28:=Tryz.sizeOf47
 v28:=Tryz.zeroValue47
 t46:=Tryz.underlying189
 a46:=Tryz.isAgg189
 z46:=Tryz.sizeOf189
 v46:=Tryz.zeroValue189
 t51:=Tryz.underlying255
 a51:=Tryz.isAgg255
 z51:=Tryz.sizeOf255
 v51:=Tryz.zeroValue255
 t53:=Tryz.underlying258
 a53:=Tryz.isAgg258
 z53:=Tryz.sizeOf258
 v53:=Tryz.zeroValue258
 t131:=Tryz.underlying112
 a131:=Tryz.isAgg112
 z131:=Tryz.sizeOf112
 v131:=Tryz.zeroValue112
 t182:=Tryz.underlying290
 a182:=Tryz.isAgg290
 z182:=Tryz.sizeOf290
 v182:=Tryz.zeroValue290
 t183:=Tryz.underlying291
 a183:=Tryz.isAgg291
 z183:=Tryz.sizeOf291
 v183:=Tryz.zeroValue291
 t218:=Tryz.underlying327
 a218:=Tryz.isAgg327
 z218:=Tryz.sizeOf327
 v218:=Tryz.zeroValue327
 t222:=Tryz.underlying331
 a222:=Tryz.isAgg331
 z222:=Tryz.sizeOf331
 v222:=Tryz.zeroValue331
 t228:=Tryz.underlying349
 a228:=Tryz.isAgg349
 z228:=Tryz.sizeOf349
 v228:=Tryz.zeroValue349
 t229:=Tryz.underlying350
 a229:=Tryz.isAgg350
 z229:=Tryz.sizeOf350
 v229:=Tryz.zeroValue350 }
open Go.Sort Go.RowKit in
theorem Tryz.slices_Sort_int(z1 off cap:Nat)(zs:List Int)(w:World)(hH:Holds (Value.int .i64) w z1 off zs.toArray)(hblk:z1<w.heap.size)(z6:zs.length<4611686018427387904):
  Calls Tryz.prog 171 #[.slice (some ⟨z1,off,none⟩) zs.length cap] w fun e w'=>
   e= .returned (.tuple #[])∧∃n os,w'=grow (putRow (Value.int .i64) (Sort.ahead w n) z1 off (zs.mergeSort fun x y=>decide (x≤y)).toArray) os:=Any.slices_Sort_int Tryz.lays189 z1 off cap zs w hH hblk z6
open Go.RowKit Go.Sort in
theorem Tryz.slices_Sort_int_none(p:Option Addr)(cap:Nat)(w:World):
  Calls Tryz.prog 171 #[.slice p 0 cap] w fun e w'=>e= .returned (.tuple #[])∧w'=w:=Any.slices_Sort_int_none Tryz.lays189 p cap w
end Go.Proofs
/- The types of the program,as the abstract machine is told of them. -/
namespace Go.Abs
open Go Go.Proofs

def T:TT:=[
 (2,{ desc:= .int .i64,zero:=(.int .i64 0),size:=1,bytes:=8 }),
 (3,{ desc:= .int .i64,zero:=(.int .i64 0),size:=1,bytes:=8 }),
 (4,{ desc:= .bool,zero:=(.bool false),size:=1,bytes:=1 }),
 (5,{ desc:= .int .u8,zero:=(.int .u8 0),size:=1,bytes:=1 }),
 (9,{ desc:= .string,zero:=(.string ⟨#[]⟩),size:=1,bytes:=16 }),
 (22,{ desc:= .slice 4,zero:=(.slice none 0 0),size:=1,bytes:=24 }),
 (23,{ desc:= .slice 73,zero:=(.slice none 0 0),size:=1,bytes:=24 }),
 (25,{ desc:= .struct #[{ name:= "Types",type:=3,offset:=0,embedded:=false,tag:= "",pkgPath:= "",byteOffset:=0 },{ name:= "Finals",type:=22,offset:=1,embedded:=false,tag:= "",pkgPath:= "",byteOffset:=8 },{ name:= "Moves",type:=23,offset:=2,embedded:=false,tag:= "",pkgPath:= "",byteOffset:=32 }],zero:=(.agg #[(.int .i64 0),(.slice none 0 0),(.slice none 0 0)]),size:=3,bytes:=56 }),
 (26,{ desc:= .slice 52,zero:=(.slice none 0 0),size:=1,bytes:=24 }),
 (29,{ desc:= .int .i64,zero:=(.int .i64 0),size:=1,bytes:=8 }),
 (35,{ desc:= .slice 25,zero:=(.slice none 0 0),size:=1,bytes:=24 }),
 (41,{ desc:= .slice 66,zero:=(.slice none 0 0),size:=1,bytes:=24 }),
 (43,{ desc:= .struct #[{ name:= "Verdict",type:=3,offset:=0,embedded:=false,tag:= "",pkgPath:= "",byteOffset:=0 },{ name:= "Pairs",type:=41,offset:=1,embedded:=false,tag:= "",pkgPath:= "",byteOffset:=8 },{ name:= "Word",type:=26,offset:=2,embedded:=false,tag:= "",pkgPath:= "",byteOffset:=32 }],zero:=(.agg #[(.int .i64 0),(.slice none 0 0),(.slice none 0 0)]),size:=3,bytes:=56 }),
 (47,{ desc:= .slice 3,zero:=(.slice none 0 0),size:=1,bytes:=24 }),
 (52,{ desc:= .struct #[{ name:= "Type",type:=3,offset:=0,embedded:=false,tag:= "",pkgPath:= "",byteOffset:=0 },{ name:= "Num",type:=3,offset:=1,embedded:=false,tag:= "",pkgPath:= "",byteOffset:=8 }],zero:=(.agg #[(.int .i64 0),(.int .i64 0)]),size:=2,bytes:=16,eqv:=true }),
 (61,{ desc:= .struct #[{ name:= "word",type:=26,offset:=0,embedded:=false,tag:= "",pkgPath:= "tidegate/tidegatelaw31",byteOffset:=0 },{ name:= "some",type:=4,offset:=1,embedded:=false,tag:= "",pkgPath:= "tidegate/tidegatelaw31",byteOffset:=24 },{ name:= "with",type:=25,offset:=2,embedded:=false,tag:= "",pkgPath:= "tidegate/tidegatelaw31",byteOffset:=32 },{ name:= "other",type:=25,offset:=5,embedded:=false,tag:= "",pkgPath:= "tidegate/tidegatelaw31",byteOffset:=88 }],zero:=(.agg #[(.slice none 0 0),(.bool false),(.int .i64 0),(.slice none 0 0),(.slice none 0 0),(.int .i64 0),(.slice none 0 0),(.slice none 0 0)]),size:=8,bytes:=144 }),
 (62,{ desc:= .slice 61,zero:=(.slice none 0 0),size:=1,bytes:=24 }),
 (66,{ desc:= .array 2 3,zero:=(.agg #[(.int .i64 0),(.int .i64 0)]),size:=2,bytes:=16,eqv:=true }),
 (68,{ desc:= .slice 145,zero:=(.slice none 0 0),size:=1,bytes:=24 }),
 (70,{ desc:= .struct #[{ name:= "Sets",type:=68,offset:=0,embedded:=false,tag:= "",pkgPath:= "",byteOffset:=0 }],zero:=(.agg #[(.slice none 0 0)]),size:=1,bytes:=24 }),
 (73,{ desc:= .struct #[{ name:= "From",type:=3,offset:=0,embedded:=false,tag:= "",pkgPath:= "",byteOffset:=0 },{ name:= "To",type:=3,offset:=1,embedded:=false,tag:= "",pkgPath:= "",byteOffset:=8 },{ name:= "On",type:=70,offset:=2,embedded:=false,tag:= "",pkgPath:= "",byteOffset:=16 }],zero:=(.agg #[(.int .i64 0),(.int .i64 0),(.slice none 0 0)]),size:=3,bytes:=40 }),
 (79,{ desc:= .map 3 4,zero:=(.map none),size:=1,bytes:=8 }),
 (81,{ desc:= .func #[99] #[] false,zero:= .nilFunc,size:=1,bytes:=8 }),
 (84,{ desc:= .pointer 91,zero:=(.pointer none),size:=1,bytes:=8 }),
 (87,{ desc:= .slice 70,zero:=(.slice none 0 0),size:=1,bytes:=24 }),
 (88,{ desc:= .slice 47,zero:=(.slice none 0 0),size:=1,bytes:=24 }),
 (89,{ desc:= .map 9 3,zero:=(.map none),size:=1,bytes:=8 }),
 (91,{ desc:= .struct #[{ name:= "a",type:=25,offset:=0,embedded:=false,tag:= "",pkgPath:= "tidegate/determinize",byteOffset:=0 },{ name:= "classes",type:=87,offset:=3,embedded:=false,tag:= "",pkgPath:= "tidegate/determinize",byteOffset:=56 },{ name:= "sets",type:=88,offset:=4,embedded:=false,tag:= "",pkgPath:= "tidegate/determinize",byteOffset:=80 },{ name:= "number",type:=89,offset:=5,embedded:=false,tag:= "",pkgPath:= "tidegate/determinize",byteOffset:=104 }],zero:=(.agg #[(.int .i64 0),(.slice none 0 0),(.slice none 0 0),(.slice none 0 0),(.slice none 0 0),(.map none)]),size:=6,bytes:=112 }),
 (93,{ desc:= .func #[3] #[4] false,zero:= .nilFunc,size:=1,bytes:=8 }),
 (95,{ desc:= .func #[154] #[] false,zero:= .nilFunc,size:=1,bytes:=8 }),
 (99,{ desc:= .func #[73] #[4] false,zero:= .nilFunc,size:=1,bytes:=8 }),
 (103,{ desc:= .slice 23,zero:=(.slice none 0 0),size:=1,bytes:=24 }),
 (105,{ desc:= .struct #[{ name:= "Symbolic",type:=25,offset:=0,embedded:=true,tag:= "",pkgPath:= "",byteOffset:=0 },{ name:= "moves",type:=103,offset:=3,embedded:=false,tag:= "",pkgPath:= "tidegate/minimize",byteOffset:=56 }],zero:=(.agg #[(.int .i64 0),(.slice none 0 0),(.slice none 0 0),(.slice none 0 0)]),size:=4,bytes:=80 }),
 (109,{ desc:= .map 66 3,zero:=(.map none),size:=1,bytes:=8 }),
 (113,{ desc:= .map 3 3,zero:=(.map none),size:=1,bytes:=8 }),
 (122,{ desc:= .func #[4,4] #[4] false,zero:= .nilFunc,size:=1,bytes:=8 }),
 (128,{ desc:= .func #[196] #[] false,zero:= .nilFunc,size:=1,bytes:=8 }),
 (131,{ desc:= .struct #[{ name:= "x",type:=52,offset:=0,embedded:=false,tag:= "",pkgPath:= "tidegate/minimize",byteOffset:=0 },{ name:= "p",type:=3,offset:=2,embedded:=false,tag:= "",pkgPath:= "tidegate/minimize",byteOffset:=16 },{ name:= "q",type:=3,offset:=3,embedded:=false,tag:= "",pkgPath:= "tidegate/minimize",byteOffset:=24 }],zero:=(.agg #[(.int .i64 0),(.int .i64 0),(.int .i64 0),(.int .i64 0)]),size:=4,bytes:=32,eqv:=true }),
 (144,{ desc:= .struct #[{ name:= "Low",type:=3,offset:=0,embedded:=false,tag:= "",pkgPath:= "",byteOffset:=0 },{ name:= "High",type:=3,offset:=1,embedded:=false,tag:= "",pkgPath:= "",byteOffset:=8 }],zero:=(.agg #[(.int .i64 0),(.int .i64 0)]),size:=2,bytes:=16,eqv:=true }),
 (145,{ desc:= .slice 144,zero:=(.slice none 0 0),size:=1,bytes:=24 }),
 (148,{ desc:= .func #[3] #[145,29] false,zero:= .nilFunc,size:=1,bytes:=8 }),
 (159,{ desc:= .func #[145] #[4] false,zero:= .nilFunc,size:=1,bytes:=8 }),
 (169,{ desc:= .func #[145,145] #[145,29] false,zero:= .nilFunc,size:=1,bytes:=8 }),
 (172,{ desc:= .func #[242] #[] false,zero:= .nilFunc,size:=1,bytes:=8 }),
 (174,{ desc:= .map 66 4,zero:=(.map none),size:=1,bytes:=8 }),
 (176,{ desc:= .struct #[{ name:= "pair",type:=66,offset:=0,embedded:=false,tag:= "",pkgPath:= "tidegate/equivalence",byteOffset:=0 },{ name:= "from",type:=3,offset:=2,embedded:=false,tag:= "",pkgPath:= "tidegate/equivalence",byteOffset:=16 },{ name:= "on",type:=52,offset:=3,embedded:=false,tag:= "",pkgPath:= "tidegate/equivalence",byteOffset:=24 },{ name:= "first",type:=4,offset:=5,embedded:=false,tag:= "",pkgPath:= "tidegate/equivalence",byteOffset:=40 }],zero:=(.agg #[(.int .i64 0),(.int .i64 0),(.int .i64 0),(.int .i64 0),(.int .i64 0),(.bool false)]),size:=6,bytes:=48,eqv:=true }),
 (177,{ desc:= .slice 176,zero:=(.slice none 0 0),size:=1,bytes:=24 }),
 (181,{ desc:= .func #[244] #[] false,zero:= .nilFunc,size:=1,bytes:=8 }),
 (184,{ desc:= .struct #[{ name:= "on",type:=52,offset:=0,embedded:=false,tag:= "",pkgPath:= "tidegate/equivalence",byteOffset:=0 },{ name:= "to",type:=66,offset:=2,embedded:=false,tag:= "",pkgPath:= "tidegate/equivalence",byteOffset:=16 }],zero:=(.agg #[(.int .i64 0),(.int .i64 0),(.int .i64 0),(.int .i64 0)]),size:=4,bytes:=32,eqv:=true }),
 (188,{ desc:= .func #[66,66] #[3] false,zero:= .nilFunc,size:=1,bytes:=8 }),
 (189,{ desc:= .int .u64,zero:=(.int .u64 0),size:=1,bytes:=8 }),
 (195,{ desc:= .func #[145,145] #[4] false,zero:= .nilFunc,size:=1,bytes:=8 }),
 (199,{ desc:= .struct #[{ name:= "p",type:=3,offset:=0,embedded:=false,tag:= "",pkgPath:= "tidegate/tidegateref30",byteOffset:=0 },{ name:= "q",type:=3,offset:=1,embedded:=false,tag:= "",pkgPath:= "tidegate/tidegateref30",byteOffset:=8 },{ name:= "word",type:=26,offset:=2,embedded:=false,tag:= "",pkgPath:= "tidegate/tidegateref30",byteOffset:=16 }],zero:=(.agg #[(.int .i64 0),(.int .i64 0),(.slice none 0 0)]),size:=3,bytes:=40 }),
 (200,{ desc:= .slice 199,zero:=(.slice none 0 0),size:=1,bytes:=24 }),
 (212,{ desc:= .struct #[{ name:= "p",type:=22,offset:=0,embedded:=false,tag:= "",pkgPath:= "tidegate/tidegateref31",byteOffset:=0 },{ name:= "q",type:=22,offset:=1,embedded:=false,tag:= "",pkgPath:= "tidegate/tidegateref31",byteOffset:=24 },{ name:= "word",type:=26,offset:=2,embedded:=false,tag:= "",pkgPath:= "tidegate/tidegateref31",byteOffset:=48 }],zero:=(.agg #[(.slice none 0 0),(.slice none 0 0),(.slice none 0 0)]),size:=3,bytes:=72 }),
 (213,{ desc:= .slice 212,zero:=(.slice none 0 0),size:=1,bytes:=24 }),
 (219,{ desc:= .slice 22,zero:=(.slice none 0 0),size:=1,bytes:=24 }),
 (230,{ desc:= .slice 5,zero:=(.slice none 0 0),size:=1,bytes:=24 }),
 (233,{ desc:= .func #[144,144] #[3] false,zero:= .nilFunc,size:=1,bytes:=8 }),
 (236,{ desc:= .map 3 87,zero:=(.map none),size:=1,bytes:=8 }),
 (238,{ desc:= .func #[73,73] #[3] false,zero:= .nilFunc,size:=1,bytes:=8 }),
 (245,{ desc:= .slice 184,zero:=(.slice none 0 0),size:=1,bytes:=24 }),
 (252,{ desc:= .func #[184,184] #[3] false,zero:= .nilFunc,size:=1,bytes:=8 }),
 (255,{ desc:= .int .u32,zero:=(.int .u32 0),size:=1,bytes:=4 }),
 (258,{ desc:= .int .u64,zero:=(.int .u64 0),size:=1,bytes:=8 }),
 (276,{ desc:= .func #[144,3] #[3] false,zero:= .nilFunc,size:=1,bytes:=8 }),
 (279,{ desc:= .func #[3,3] #[4] false,zero:= .nilFunc,size:=1,bytes:=8 }),
 (286,{ desc:= .slice 87,zero:=(.slice none 0 0),size:=1,bytes:=24 }),
 (290,{ desc:= .int .i64,zero:=(.int .i64 0),size:=1,bytes:=8 }),
 (327,{ desc:= .int .u64,zero:=(.int .u64 0),size:=1,bytes:=8 }),
 (331,{ desc:= .pointer 3,zero:=(.pointer none),size:=1,bytes:=8 }),
 (338,{ desc:= .array 24 5,zero:=(.agg #[(.int .u8 0),(.int .u8 0),(.int .u8 0),(.int .u8 0),(.int .u8 0),(.int .u8 0),(.int .u8 0),(.int .u8 0),(.int .u8 0),(.int .u8 0),(.int .u8 0),(.int .u8 0),(.int .u8 0),(.int .u8 0),(.int .u8 0),(.int .u8 0),(.int .u8 0),(.int .u8 0),(.int .u8 0),(.int .u8 0),(.int .u8 0),(.int .u8 0),(.int .u8 0),(.int .u8 0)]),size:=24,bytes:=24,eqv:=true }),
 (355,{ desc:= .array 20 258,zero:=(.agg #[(.int .u64 0),(.int .u64 0),(.int .u64 0),(.int .u64 0),(.int .u64 0),(.int .u64 0),(.int .u64 0),(.int .u64 0),(.int .u64 0),(.int .u64 0),(.int .u64 0),(.int .u64 0),(.int .u64 0),(.int .u64 0),(.int .u64 0),(.int .u64 0),(.int .u64 0),(.int .u64 0),(.int .u64 0),(.int .u64 0)]),size:=20,bytes:=160,eqv:=true }),
 (356,{ desc:= .array 65 5,zero:=(.agg #[(.int .u8 0),(.int .u8 0),(.int .u8 0),(.int .u8 0),(.int .u8 0),(.int .u8 0),(.int .u8 0),(.int .u8 0),(.int .u8 0),(.int .u8 0),(.int .u8 0),(.int .u8 0),(.int .u8 0),(.int .u8 0),(.int .u8 0),(.int .u8 0),(.int .u8 0),(.int .u8 0),(.int .u8 0),(.int .u8 0),(.int .u8 0),(.int .u8 0),(.int .u8 0),(.int .u8 0),(.int .u8 0),(.int .u8 0),(.int .u8 0),(.int .u8 0),(.int .u8 0),(.int .u8 0),(.int .u8 0),(.int .u8 0),(.int .u8 0),(.int .u8 0),(.int .u8 0),(.int .u8 0),(.int .u8 0),(.int .u8 0),(.int .u8 0),(.int .u8 0),(.int .u8 0),(.int .u8 0),(.int .u8 0),(.int .u8 0),(.int .u8 0),(.int .u8 0),(.int .u8 0),(.int .u8 0),(.int .u8 0),(.int .u8 0),(.int .u8 0),(.int .u8 0),(.int .u8 0),(.int .u8 0),(.int .u8 0),(.int .u8 0),(.int .u8 0),(.int .u8 0),(.int .u8 0),(.int .u8 0),(.int .u8 0),(.int .u8 0),(.int .u8 0),(.int .u8 0),(.int .u8 0)]),size:=65,bytes:=65,eqv:=true }),
 (360,{ desc:= .array 32 5,zero:=(.agg #[(.int .u8 0),(.int .u8 0),(.int .u8 0),(.int .u8 0),(.int .u8 0),(.int .u8 0),(.int .u8 0),(.int .u8 0),(.int .u8 0),(.int .u8 0),(.int .u8 0),(.int .u8 0),(.int .u8 0),(.int .u8 0),(.int .u8 0),(.int .u8 0),(.int .u8 0),(.int .u8 0),(.int .u8 0),(.int .u8 0),(.int .u8 0),(.int .u8 0),(.int .u8 0),(.int .u8 0),(.int .u8 0),(.int .u8 0),(.int .u8 0),(.int .u8 0),(.int .u8 0),(.int .u8 0),(.int .u8 0),(.int .u8 0)]),size:=32,bytes:=32,eqv:=true }),
 (361,{ desc:= .array 64 5,zero:=(.agg #[(.int .u8 0),(.int .u8 0),(.int .u8 0),(.int .u8 0),(.int .u8 0),(.int .u8 0),(.int .u8 0),(.int .u8 0),(.int .u8 0),(.int .u8 0),(.int .u8 0),(.int .u8 0),(.int .u8 0),(.int .u8 0),(.int .u8 0),(.int .u8 0),(.int .u8 0),(.int .u8 0),(.int .u8 0),(.int .u8 0),(.int .u8 0),(.int .u8 0),(.int .u8 0),(.int .u8 0),(.int .u8 0),(.int .u8 0),(.int .u8 0),(.int .u8 0),(.int .u8 0),(.int .u8 0),(.int .u8 0),(.int .u8 0),(.int .u8 0),(.int .u8 0),(.int .u8 0),(.int .u8 0),(.int .u8 0),(.int .u8 0),(.int .u8 0),(.int .u8 0),(.int .u8 0),(.int .u8 0),(.int .u8 0),(.int .u8 0),(.int .u8 0),(.int .u8 0),(.int .u8 0),(.int .u8 0),(.int .u8 0),(.int .u8 0),(.int .u8 0),(.int .u8 0),(.int .u8 0),(.int .u8 0),(.int .u8 0),(.int .u8 0),(.int .u8 0),(.int .u8 0),(.int .u8 0),(.int .u8 0),(.int .u8 0),(.int .u8 0),(.int .u8 0),(.int .u8 0)]),size:=64,bytes:=64,eqv:=true })]

def Wl(P:Program)(T:TT)(t:Nat)(i:TI):Prop:=P.underlying t=some i.desc∧(P.info? t).map (fun j=>(j.zero,j.size,j.bytes))=some (some i.zero,i.size,i.bytes)∧
 (i.eqv=true→P.stoodInHeld t=false∧P.eqGuardType P.depth t=false)∧(∀fs,i.desc= .struct fs→Uk T fs=true)

theorem x2r:Wl Tryz.prog T 2 { desc:= .int .i64,zero:=(.int .i64 0),size:=1,bytes:=8 }:=
 ⟨by kernel_rfl,by kernel_rfl,fun h=>(by cases h),fun fs h=>(by cases h)⟩
theorem v2c:Wl Tryz.prog T 3 { desc:= .int .i64,zero:=(.int .i64 0),size:=1,bytes:=8 }:=
 ⟨by kernel_rfl,by kernel_rfl,fun h=>(by cases h),fun fs h=>(by cases h)⟩
theorem x2t:Wl Tryz.prog T 4 { desc:= .bool,zero:=(.bool false),size:=1,bytes:=1 }:=
 ⟨by kernel_rfl,by kernel_rfl,fun h=>(by cases h),fun fs h=>(by cases h)⟩
theorem v2i:Wl Tryz.prog T 5 { desc:= .int .u8,zero:=(.int .u8 0),size:=1,bytes:=1 }:=
 ⟨by kernel_rfl,by kernel_rfl,fun h=>(by cases h),fun fs h=>(by cases h)⟩
theorem v2j:Wl Tryz.prog T 9 { desc:= .string,zero:=(.string ⟨#[]⟩),size:=1,bytes:=16 }:=
 ⟨by kernel_rfl,by kernel_rfl,fun h=>(by cases h),fun fs h=>(by cases h)⟩
theorem y2j:Wl Tryz.prog T 22 { desc:= .slice 4,zero:=(.slice none 0 0),size:=1,bytes:=24 }:=
 ⟨by kernel_rfl,by kernel_rfl,fun h=>(by cases h),fun fs h=>(by cases h)⟩
theorem z2p:Wl Tryz.prog T 23 { desc:= .slice 73,zero:=(.slice none 0 0),size:=1,bytes:=24 }:=
 ⟨by kernel_rfl,by kernel_rfl,fun h=>(by cases h),fun fs h=>(by cases h)⟩
theorem y2l:Wl Tryz.prog T 25 { desc:= .struct #[{ name:= "Types",type:=3,offset:=0,embedded:=false,tag:= "",pkgPath:= "",byteOffset:=0 },{ name:= "Finals",type:=22,offset:=1,embedded:=false,tag:= "",pkgPath:= "",byteOffset:=8 },{ name:= "Moves",type:=23,offset:=2,embedded:=false,tag:= "",pkgPath:= "",byteOffset:=32 }],zero:=(.agg #[(.int .i64 0),(.slice none 0 0),(.slice none 0 0)]),size:=3,bytes:=56 }:=
 ⟨by kernel_rfl,by kernel_rfl,fun h=>(by cases h),fun fs h=>(by cases h;kernel_rfl)⟩
theorem z2a:Wl Tryz.prog T 26 { desc:= .slice 52,zero:=(.slice none 0 0),size:=1,bytes:=24 }:=
 ⟨by kernel_rfl,by kernel_rfl,fun h=>(by cases h),fun fs h=>(by cases h)⟩
theorem y2e:Wl Tryz.prog T 29 { desc:= .int .i64,zero:=(.int .i64 0),size:=1,bytes:=8 }:=
 ⟨by kernel_rfl,by kernel_rfl,fun h=>(by cases h),fun fs h=>(by cases h)⟩
theorem z2q:Wl Tryz.prog T 35 { desc:= .slice 25,zero:=(.slice none 0 0),size:=1,bytes:=24 }:=
 ⟨by kernel_rfl,by kernel_rfl,fun h=>(by cases h),fun fs h=>(by cases h)⟩
theorem w2p:Wl Tryz.prog T 41 { desc:= .slice 66,zero:=(.slice none 0 0),size:=1,bytes:=24 }:=
 ⟨by kernel_rfl,by kernel_rfl,fun h=>(by cases h),fun fs h=>(by cases h)⟩
theorem w24:Wl Tryz.prog T 43 { desc:= .struct #[{ name:= "Verdict",type:=3,offset:=0,embedded:=false,tag:= "",pkgPath:= "",byteOffset:=0 },{ name:= "Pairs",type:=41,offset:=1,embedded:=false,tag:= "",pkgPath:= "",byteOffset:=8 },{ name:= "Word",type:=26,offset:=2,embedded:=false,tag:= "",pkgPath:= "",byteOffset:=32 }],zero:=(.agg #[(.int .i64 0),(.slice none 0 0),(.slice none 0 0)]),size:=3,bytes:=56 }:=
 ⟨by kernel_rfl,by kernel_rfl,fun h=>(by cases h),fun fs h=>(by cases h;kernel_rfl)⟩
theorem z2g:Wl Tryz.prog T 47 { desc:= .slice 3,zero:=(.slice none 0 0),size:=1,bytes:=24 }:=
 ⟨by kernel_rfl,by kernel_rfl,fun h=>(by cases h),fun fs h=>(by cases h)⟩
theorem w2y:Wl Tryz.prog T 52 { desc:= .struct #[{ name:= "Type",type:=3,offset:=0,embedded:=false,tag:= "",pkgPath:= "",byteOffset:=0 },{ name:= "Num",type:=3,offset:=1,embedded:=false,tag:= "",pkgPath:= "",byteOffset:=8 }],zero:=(.agg #[(.int .i64 0),(.int .i64 0)]),size:=2,bytes:=16,eqv:=true }:=
 ⟨by kernel_rfl,by kernel_rfl,fun _=>⟨by kernel_rfl,by kernel_rfl⟩,fun fs h=>(by cases h;kernel_rfl)⟩
theorem w2g:Wl Tryz.prog T 61 { desc:= .struct #[{ name:= "word",type:=26,offset:=0,embedded:=false,tag:= "",pkgPath:= "tidegate/tidegatelaw31",byteOffset:=0 },{ name:= "some",type:=4,offset:=1,embedded:=false,tag:= "",pkgPath:= "tidegate/tidegatelaw31",byteOffset:=24 },{ name:= "with",type:=25,offset:=2,embedded:=false,tag:= "",pkgPath:= "tidegate/tidegatelaw31",byteOffset:=32 },{ name:= "other",type:=25,offset:=5,embedded:=false,tag:= "",pkgPath:= "tidegate/tidegatelaw31",byteOffset:=88 }],zero:=(.agg #[(.slice none 0 0),(.bool false),(.int .i64 0),(.slice none 0 0),(.slice none 0 0),(.int .i64 0),(.slice none 0 0),(.slice none 0 0)]),size:=8,bytes:=144 }:=
 ⟨by kernel_rfl,by kernel_rfl,fun h=>(by cases h),fun fs h=>(by cases h;kernel_rfl)⟩
theorem z2t:Wl Tryz.prog T 62 { desc:= .slice 61,zero:=(.slice none 0 0),size:=1,bytes:=24 }:=
 ⟨by kernel_rfl,by kernel_rfl,fun h=>(by cases h),fun fs h=>(by cases h)⟩
theorem w2f:Wl Tryz.prog T 66 { desc:= .array 2 3,zero:=(.agg #[(.int .i64 0),(.int .i64 0)]),size:=2,bytes:=16,eqv:=true }:=
 ⟨by kernel_rfl,by kernel_rfl,fun _=>⟨by kernel_rfl,by kernel_rfl⟩,fun fs h=>(by cases h)⟩
theorem y2k:Wl Tryz.prog T 68 { desc:= .slice 145,zero:=(.slice none 0 0),size:=1,bytes:=24 }:=
 ⟨by kernel_rfl,by kernel_rfl,fun h=>(by cases h),fun fs h=>(by cases h)⟩
theorem w2t:Wl Tryz.prog T 70 { desc:= .struct #[{ name:= "Sets",type:=68,offset:=0,embedded:=false,tag:= "",pkgPath:= "",byteOffset:=0 }],zero:=(.agg #[(.slice none 0 0)]),size:=1,bytes:=24 }:=
 ⟨by kernel_rfl,by kernel_rfl,fun h=>(by cases h),fun fs h=>(by cases h;kernel_rfl)⟩
theorem z29:Wl Tryz.prog T 73 { desc:= .struct #[{ name:= "From",type:=3,offset:=0,embedded:=false,tag:= "",pkgPath:= "",byteOffset:=0 },{ name:= "To",type:=3,offset:=1,embedded:=false,tag:= "",pkgPath:= "",byteOffset:=8 },{ name:= "On",type:=70,offset:=2,embedded:=false,tag:= "",pkgPath:= "",byteOffset:=16 }],zero:=(.agg #[(.int .i64 0),(.int .i64 0),(.slice none 0 0)]),size:=3,bytes:=40 }:=
 ⟨by kernel_rfl,by kernel_rfl,fun h=>(by cases h),fun fs h=>(by cases h;kernel_rfl)⟩
theorem w2i:Wl Tryz.prog T 79 { desc:= .map 3 4,zero:=(.map none),size:=1,bytes:=8 }:=
 ⟨by kernel_rfl,by kernel_rfl,fun h=>(by cases h),fun fs h=>(by cases h)⟩
theorem y2g:Wl Tryz.prog T 81 { desc:= .func #[99] #[] false,zero:= .nilFunc,size:=1,bytes:=8 }:=
 ⟨by kernel_rfl,by kernel_rfl,fun h=>(by cases h),fun fs h=>(by cases h)⟩
theorem w23:Wl Tryz.prog T 84 { desc:= .pointer 91,zero:=(.pointer none),size:=1,bytes:=8 }:=
 ⟨by kernel_rfl,by kernel_rfl,fun h=>(by cases h),fun fs h=>(by cases h)⟩
theorem w2j:Wl Tryz.prog T 87 { desc:= .slice 70,zero:=(.slice none 0 0),size:=1,bytes:=24 }:=
 ⟨by kernel_rfl,by kernel_rfl,fun h=>(by cases h),fun fs h=>(by cases h)⟩
theorem z2u:Wl Tryz.prog T 88 { desc:= .slice 47,zero:=(.slice none 0 0),size:=1,bytes:=24 }:=
 ⟨by kernel_rfl,by kernel_rfl,fun h=>(by cases h),fun fs h=>(by cases h)⟩
theorem w2x:Wl Tryz.prog T 89 { desc:= .map 9 3,zero:=(.map none),size:=1,bytes:=8 }:=
 ⟨by kernel_rfl,by kernel_rfl,fun h=>(by cases h),fun fs h=>(by cases h)⟩
theorem w2k:Wl Tryz.prog T 91 { desc:= .struct #[{ name:= "a",type:=25,offset:=0,embedded:=false,tag:= "",pkgPath:= "tidegate/determinize",byteOffset:=0 },{ name:= "classes",type:=87,offset:=3,embedded:=false,tag:= "",pkgPath:= "tidegate/determinize",byteOffset:=56 },{ name:= "sets",type:=88,offset:=4,embedded:=false,tag:= "",pkgPath:= "tidegate/determinize",byteOffset:=80 },{ name:= "number",type:=89,offset:=5,embedded:=false,tag:= "",pkgPath:= "tidegate/determinize",byteOffset:=104 }],zero:=(.agg #[(.int .i64 0),(.slice none 0 0),(.slice none 0 0),(.slice none 0 0),(.slice none 0 0),(.map none)]),size:=6,bytes:=112 }:=
 ⟨by kernel_rfl,by kernel_rfl,fun h=>(by cases h),fun fs h=>(by cases h;kernel_rfl)⟩
theorem z2o:Wl Tryz.prog T 93 { desc:= .func #[3] #[4] false,zero:= .nilFunc,size:=1,bytes:=8 }:=
 ⟨by kernel_rfl,by kernel_rfl,fun h=>(by cases h),fun fs h=>(by cases h)⟩
theorem z2z:Wl Tryz.prog T 95 { desc:= .func #[154] #[] false,zero:= .nilFunc,size:=1,bytes:=8 }:=
 ⟨by kernel_rfl,by kernel_rfl,fun h=>(by cases h),fun fs h=>(by cases h)⟩
theorem y2b:Wl Tryz.prog T 99 { desc:= .func #[73] #[4] false,zero:= .nilFunc,size:=1,bytes:=8 }:=
 ⟨by kernel_rfl,by kernel_rfl,fun h=>(by cases h),fun fs h=>(by cases h)⟩
theorem c1q:Wl Tryz.prog T 103 { desc:= .slice 23,zero:=(.slice none 0 0),size:=1,bytes:=24 }:=
 ⟨by kernel_rfl,by kernel_rfl,fun h=>(by cases h),fun fs h=>(by cases h)⟩
theorem q2n:Wl Tryz.prog T 105 { desc:= .struct #[{ name:= "Symbolic",type:=25,offset:=0,embedded:=true,tag:= "",pkgPath:= "",byteOffset:=0 },{ name:= "moves",type:=103,offset:=3,embedded:=false,tag:= "",pkgPath:= "tidegate/minimize",byteOffset:=56 }],zero:=(.agg #[(.int .i64 0),(.slice none 0 0),(.slice none 0 0),(.slice none 0 0)]),size:=4,bytes:=80 }:=
 ⟨by kernel_rfl,by kernel_rfl,fun h=>(by cases h),fun fs h=>(by cases h;kernel_rfl)⟩
theorem q2k:Wl Tryz.prog T 109 { desc:= .map 66 3,zero:=(.map none),size:=1,bytes:=8 }:=
 ⟨by kernel_rfl,by kernel_rfl,fun h=>(by cases h),fun fs h=>(by cases h)⟩
theorem d1h:Wl Tryz.prog T 113 { desc:= .map 3 3,zero:=(.map none),size:=1,bytes:=8 }:=
 ⟨by kernel_rfl,by kernel_rfl,fun h=>(by cases h),fun fs h=>(by cases h)⟩
theorem q2y:Wl Tryz.prog T 122 { desc:= .func #[4,4] #[4] false,zero:= .nilFunc,size:=1,bytes:=8 }:=
 ⟨by kernel_rfl,by kernel_rfl,fun h=>(by cases h),fun fs h=>(by cases h)⟩
theorem f1m:Wl Tryz.prog T 128 { desc:= .func #[196] #[] false,zero:= .nilFunc,size:=1,bytes:=8 }:=
 ⟨by kernel_rfl,by kernel_rfl,fun h=>(by cases h),fun fs h=>(by cases h)⟩
theorem d1s:Wl Tryz.prog T 131 { desc:= .struct #[{ name:= "x",type:=52,offset:=0,embedded:=false,tag:= "",pkgPath:= "tidegate/minimize",byteOffset:=0 },{ name:= "p",type:=3,offset:=2,embedded:=false,tag:= "",pkgPath:= "tidegate/minimize",byteOffset:=16 },{ name:= "q",type:=3,offset:=3,embedded:=false,tag:= "",pkgPath:= "tidegate/minimize",byteOffset:=24 }],zero:=(.agg #[(.int .i64 0),(.int .i64 0),(.int .i64 0),(.int .i64 0)]),size:=4,bytes:=32,eqv:=true }:=
 ⟨by kernel_rfl,by kernel_rfl,fun _=>⟨by kernel_rfl,by kernel_rfl⟩,fun fs h=>(by cases h;kernel_rfl)⟩
theorem f1k:Wl Tryz.prog T 144 { desc:= .struct #[{ name:= "Low",type:=3,offset:=0,embedded:=false,tag:= "",pkgPath:= "",byteOffset:=0 },{ name:= "High",type:=3,offset:=1,embedded:=false,tag:= "",pkgPath:= "",byteOffset:=8 }],zero:=(.agg #[(.int .i64 0),(.int .i64 0)]),size:=2,bytes:=16,eqv:=true }:=
 ⟨by kernel_rfl,by kernel_rfl,fun _=>⟨by kernel_rfl,by kernel_rfl⟩,fun fs h=>(by cases h;kernel_rfl)⟩
theorem f1c:Wl Tryz.prog T 145 { desc:= .slice 144,zero:=(.slice none 0 0),size:=1,bytes:=24 }:=
 ⟨by kernel_rfl,by kernel_rfl,fun h=>(by cases h),fun fs h=>(by cases h)⟩
theorem c1t:Wl Tryz.prog T 148 { desc:= .func #[3] #[145,29] false,zero:= .nilFunc,size:=1,bytes:=8 }:=
 ⟨by kernel_rfl,by kernel_rfl,fun h=>(by cases h),fun fs h=>(by cases h)⟩
theorem d1c:Wl Tryz.prog T 159 { desc:= .func #[145] #[4] false,zero:= .nilFunc,size:=1,bytes:=8 }:=
 ⟨by kernel_rfl,by kernel_rfl,fun h=>(by cases h),fun fs h=>(by cases h)⟩
theorem c1d:Wl Tryz.prog T 169 { desc:= .func #[145,145] #[145,29] false,zero:= .nilFunc,size:=1,bytes:=8 }:=
 ⟨by kernel_rfl,by kernel_rfl,fun h=>(by cases h),fun fs h=>(by cases h)⟩
theorem g1l:Wl Tryz.prog T 172 { desc:= .func #[242] #[] false,zero:= .nilFunc,size:=1,bytes:=8 }:=
 ⟨by kernel_rfl,by kernel_rfl,fun h=>(by cases h),fun fs h=>(by cases h)⟩
theorem d1r:Wl Tryz.prog T 174 { desc:= .map 66 4,zero:=(.map none),size:=1,bytes:=8 }:=
 ⟨by kernel_rfl,by kernel_rfl,fun h=>(by cases h),fun fs h=>(by cases h)⟩
theorem f1p:Wl Tryz.prog T 176 { desc:= .struct #[{ name:= "pair",type:=66,offset:=0,embedded:=false,tag:= "",pkgPath:= "tidegate/equivalence",byteOffset:=0 },{ name:= "from",type:=3,offset:=2,embedded:=false,tag:= "",pkgPath:= "tidegate/equivalence",byteOffset:=16 },{ name:= "on",type:=52,offset:=3,embedded:=false,tag:= "",pkgPath:= "tidegate/equivalence",byteOffset:=24 },{ name:= "first",type:=4,offset:=5,embedded:=false,tag:= "",pkgPath:= "tidegate/equivalence",byteOffset:=40 }],zero:=(.agg #[(.int .i64 0),(.int .i64 0),(.int .i64 0),(.int .i64 0),(.int .i64 0),(.bool false)]),size:=6,bytes:=48,eqv:=true }:=
 ⟨by kernel_rfl,by kernel_rfl,fun _=>⟨by kernel_rfl,by kernel_rfl⟩,fun fs h=>(by cases h;kernel_rfl)⟩
theorem g1z:Wl Tryz.prog T 177 { desc:= .slice 176,zero:=(.slice none 0 0),size:=1,bytes:=24 }:=
 ⟨by kernel_rfl,by kernel_rfl,fun h=>(by cases h),fun fs h=>(by cases h)⟩
theorem g1k:Wl Tryz.prog T 181 { desc:= .func #[244] #[] false,zero:= .nilFunc,size:=1,bytes:=8 }:=
 ⟨by kernel_rfl,by kernel_rfl,fun h=>(by cases h),fun fs h=>(by cases h)⟩
theorem q2e:Wl Tryz.prog T 184 { desc:= .struct #[{ name:= "on",type:=52,offset:=0,embedded:=false,tag:= "",pkgPath:= "tidegate/equivalence",byteOffset:=0 },{ name:= "to",type:=66,offset:=2,embedded:=false,tag:= "",pkgPath:= "tidegate/equivalence",byteOffset:=16 }],zero:=(.agg #[(.int .i64 0),(.int .i64 0),(.int .i64 0),(.int .i64 0)]),size:=4,bytes:=32,eqv:=true }:=
 ⟨by kernel_rfl,by kernel_rfl,fun _=>⟨by kernel_rfl,by kernel_rfl⟩,fun fs h=>(by cases h;kernel_rfl)⟩
theorem d1m:Wl Tryz.prog T 188 { desc:= .func #[66,66] #[3] false,zero:= .nilFunc,size:=1,bytes:=8 }:=
 ⟨by kernel_rfl,by kernel_rfl,fun h=>(by cases h),fun fs h=>(by cases h)⟩
theorem c17:Wl Tryz.prog T 189 { desc:= .int .u64,zero:=(.int .u64 0),size:=1,bytes:=8 }:=
 ⟨by kernel_rfl,by kernel_rfl,fun h=>(by cases h),fun fs h=>(by cases h)⟩
theorem g1j:Wl Tryz.prog T 195 { desc:= .func #[145,145] #[4] false,zero:= .nilFunc,size:=1,bytes:=8 }:=
 ⟨by kernel_rfl,by kernel_rfl,fun h=>(by cases h),fun fs h=>(by cases h)⟩
theorem f1i:Wl Tryz.prog T 199 { desc:= .struct #[{ name:= "p",type:=3,offset:=0,embedded:=false,tag:= "",pkgPath:= "tidegate/tidegateref30",byteOffset:=0 },{ name:= "q",type:=3,offset:=1,embedded:=false,tag:= "",pkgPath:= "tidegate/tidegateref30",byteOffset:=8 },{ name:= "word",type:=26,offset:=2,embedded:=false,tag:= "",pkgPath:= "tidegate/tidegateref30",byteOffset:=16 }],zero:=(.agg #[(.int .i64 0),(.int .i64 0),(.slice none 0 0)]),size:=3,bytes:=40 }:=
 ⟨by kernel_rfl,by kernel_rfl,fun h=>(by cases h),fun fs h=>(by cases h;kernel_rfl)⟩
theorem g1w:Wl Tryz.prog T 200 { desc:= .slice 199,zero:=(.slice none 0 0),size:=1,bytes:=24 }:=
 ⟨by kernel_rfl,by kernel_rfl,fun h=>(by cases h),fun fs h=>(by cases h)⟩
theorem g1v:Wl Tryz.prog T 212 { desc:= .struct #[{ name:= "p",type:=22,offset:=0,embedded:=false,tag:= "",pkgPath:= "tidegate/tidegateref31",byteOffset:=0 },{ name:= "q",type:=22,offset:=1,embedded:=false,tag:= "",pkgPath:= "tidegate/tidegateref31",byteOffset:=24 },{ name:= "word",type:=26,offset:=2,embedded:=false,tag:= "",pkgPath:= "tidegate/tidegateref31",byteOffset:=48 }],zero:=(.agg #[(.slice none 0 0),(.slice none 0 0),(.slice none 0 0)]),size:=3,bytes:=72 }:=
 ⟨by kernel_rfl,by kernel_rfl,fun h=>(by cases h),fun fs h=>(by cases h;kernel_rfl)⟩
theorem f1b:Wl Tryz.prog T 213 { desc:= .slice 212,zero:=(.slice none 0 0),size:=1,bytes:=24 }:=
 ⟨by kernel_rfl,by kernel_rfl,fun h=>(by cases h),fun fs h=>(by cases h)⟩
theorem d1u:Wl Tryz.prog T 219 { desc:= .slice 22,zero:=(.slice none 0 0),size:=1,bytes:=24 }:=
 ⟨by kernel_rfl,by kernel_rfl,fun h=>(by cases h),fun fs h=>(by cases h)⟩
theorem c14:Wl Tryz.prog T 230 { desc:= .slice 5,zero:=(.slice none 0 0),size:=1,bytes:=24 }:=
 ⟨by kernel_rfl,by kernel_rfl,fun h=>(by cases h),fun fs h=>(by cases h)⟩
theorem d1l:Wl Tryz.prog T 233 { desc:= .func #[144,144] #[3] false,zero:= .nilFunc,size:=1,bytes:=8 }:=
 ⟨by kernel_rfl,by kernel_rfl,fun h=>(by cases h),fun fs h=>(by cases h)⟩
theorem c1f:Wl Tryz.prog T 236 { desc:= .map 3 87,zero:=(.map none),size:=1,bytes:=8 }:=
 ⟨by kernel_rfl,by kernel_rfl,fun h=>(by cases h),fun fs h=>(by cases h)⟩
theorem d1x:Wl Tryz.prog T 238 { desc:= .func #[73,73] #[3] false,zero:= .nilFunc,size:=1,bytes:=8 }:=
 ⟨by kernel_rfl,by kernel_rfl,fun h=>(by cases h),fun fs h=>(by cases h)⟩
theorem c10:Wl Tryz.prog T 245 { desc:= .slice 184,zero:=(.slice none 0 0),size:=1,bytes:=24 }:=
 ⟨by kernel_rfl,by kernel_rfl,fun h=>(by cases h),fun fs h=>(by cases h)⟩
theorem c1u:Wl Tryz.prog T 252 { desc:= .func #[184,184] #[3] false,zero:= .nilFunc,size:=1,bytes:=8 }:=
 ⟨by kernel_rfl,by kernel_rfl,fun h=>(by cases h),fun fs h=>(by cases h)⟩
theorem q2l:Wl Tryz.prog T 255 { desc:= .int .u32,zero:=(.int .u32 0),size:=1,bytes:=4 }:=
 ⟨by kernel_rfl,by kernel_rfl,fun h=>(by cases h),fun fs h=>(by cases h)⟩
theorem d1z:Wl Tryz.prog T 258 { desc:= .int .u64,zero:=(.int .u64 0),size:=1,bytes:=8 }:=
 ⟨by kernel_rfl,by kernel_rfl,fun h=>(by cases h),fun fs h=>(by cases h)⟩
theorem f1t:Wl Tryz.prog T 276 { desc:= .func #[144,3] #[3] false,zero:= .nilFunc,size:=1,bytes:=8 }:=
 ⟨by kernel_rfl,by kernel_rfl,fun h=>(by cases h),fun fs h=>(by cases h)⟩
theorem q2p:Wl Tryz.prog T 279 { desc:= .func #[3,3] #[4] false,zero:= .nilFunc,size:=1,bytes:=8 }:=
 ⟨by kernel_rfl,by kernel_rfl,fun h=>(by cases h),fun fs h=>(by cases h)⟩
theorem f1o:Wl Tryz.prog T 286 { desc:= .slice 87,zero:=(.slice none 0 0),size:=1,bytes:=24 }:=
 ⟨by kernel_rfl,by kernel_rfl,fun h=>(by cases h),fun fs h=>(by cases h)⟩
theorem d1i:Wl Tryz.prog T 290 { desc:= .int .i64,zero:=(.int .i64 0),size:=1,bytes:=8 }:=
 ⟨by kernel_rfl,by kernel_rfl,fun h=>(by cases h),fun fs h=>(by cases h)⟩
theorem d1e:Wl Tryz.prog T 327 { desc:= .int .u64,zero:=(.int .u64 0),size:=1,bytes:=8 }:=
 ⟨by kernel_rfl,by kernel_rfl,fun h=>(by cases h),fun fs h=>(by cases h)⟩
theorem f1g:Wl Tryz.prog T 331 { desc:= .pointer 3,zero:=(.pointer none),size:=1,bytes:=8 }:=
 ⟨by kernel_rfl,by kernel_rfl,fun h=>(by cases h),fun fs h=>(by cases h)⟩
theorem f1j:Wl Tryz.prog T 338 { desc:= .array 24 5,zero:=(.agg #[(.int .u8 0),(.int .u8 0),(.int .u8 0),(.int .u8 0),(.int .u8 0),(.int .u8 0),(.int .u8 0),(.int .u8 0),(.int .u8 0),(.int .u8 0),(.int .u8 0),(.int .u8 0),(.int .u8 0),(.int .u8 0),(.int .u8 0),(.int .u8 0),(.int .u8 0),(.int .u8 0),(.int .u8 0),(.int .u8 0),(.int .u8 0),(.int .u8 0),(.int .u8 0),(.int .u8 0)]),size:=24,bytes:=24,eqv:=true }:=
 ⟨by kernel_rfl,by kernel_rfl,fun _=>⟨by kernel_rfl,by kernel_rfl⟩,fun fs h=>(by cases h)⟩
theorem q2f:Wl Tryz.prog T 355 { desc:= .array 20 258,zero:=(.agg #[(.int .u64 0),(.int .u64 0),(.int .u64 0),(.int .u64 0),(.int .u64 0),(.int .u64 0),(.int .u64 0),(.int .u64 0),(.int .u64 0),(.int .u64 0),(.int .u64 0),(.int .u64 0),(.int .u64 0),(.int .u64 0),(.int .u64 0),(.int .u64 0),(.int .u64 0),(.int .u64 0),(.int .u64 0),(.int .u64 0)]),size:=20,bytes:=160,eqv:=true }:=
 ⟨by kernel_rfl,by kernel_rfl,fun _=>⟨by kernel_rfl,by kernel_rfl⟩,fun fs h=>(by cases h)⟩
theorem c1b:Wl Tryz.prog T 356 { desc:= .array 65 5,zero:=(.agg #[(.int .u8 0),(.int .u8 0),(.int .u8 0),(.int .u8 0),(.int .u8 0),(.int .u8 0),(.int .u8 0),(.int .u8 0),(.int .u8 0),(.int .u8 0),(.int .u8 0),(.int .u8 0),(.int .u8 0),(.int .u8 0),(.int .u8 0),(.int .u8 0),(.int .u8 0),(.int .u8 0),(.int .u8 0),(.int .u8 0),(.int .u8 0),(.int .u8 0),(.int .u8 0),(.int .u8 0),(.int .u8 0),(.int .u8 0),(.int .u8 0),(.int .u8 0),(.int .u8 0),(.int .u8 0),(.int .u8 0),(.int .u8 0),(.int .u8 0),(.int .u8 0),(.int .u8 0),(.int .u8 0),(.int .u8 0),(.int .u8 0),(.int .u8 0),(.int .u8 0),(.int .u8 0),(.int .u8 0),(.int .u8 0),(.int .u8 0),(.int .u8 0),(.int .u8 0),(.int .u8 0),(.int .u8 0),(.int .u8 0),(.int .u8 0),(.int .u8 0),(.int .u8 0),(.int .u8 0),(.int .u8 0),(.int .u8 0),(.int .u8 0),(.int .u8 0),(.int .u8 0),(.int .u8 0),(.int .u8 0),(.int .u8 0),(.int .u8 0),(.int .u8 0),(.int .u8 0),(.int .u8 0)]),size:=65,bytes:=65,eqv:=true }:=
 ⟨by kernel_rfl,by kernel_rfl,fun _=>⟨by kernel_rfl,by kernel_rfl⟩,fun fs h=>(by cases h)⟩
theorem c11:Wl Tryz.prog T 360 { desc:= .array 32 5,zero:=(.agg #[(.int .u8 0),(.int .u8 0),(.int .u8 0),(.int .u8 0),(.int .u8 0),(.int .u8 0),(.int .u8 0),(.int .u8 0),(.int .u8 0),(.int .u8 0),(.int .u8 0),(.int .u8 0),(.int .u8 0),(.int .u8 0),(.int .u8 0),(.int .u8 0),(.int .u8 0),(.int .u8 0),(.int .u8 0),(.int .u8 0),(.int .u8 0),(.int .u8 0),(.int .u8 0),(.int .u8 0),(.int .u8 0),(.int .u8 0),(.int .u8 0),(.int .u8 0),(.int .u8 0),(.int .u8 0),(.int .u8 0),(.int .u8 0)]),size:=32,bytes:=32,eqv:=true }:=
 ⟨by kernel_rfl,by kernel_rfl,fun _=>⟨by kernel_rfl,by kernel_rfl⟩,fun fs h=>(by cases h)⟩
theorem c1p:Wl Tryz.prog T 361 { desc:= .array 64 5,zero:=(.agg #[(.int .u8 0),(.int .u8 0),(.int .u8 0),(.int .u8 0),(.int .u8 0),(.int .u8 0),(.int .u8 0),(.int .u8 0),(.int .u8 0),(.int .u8 0),(.int .u8 0),(.int .u8 0),(.int .u8 0),(.int .u8 0),(.int .u8 0),(.int .u8 0),(.int .u8 0),(.int .u8 0),(.int .u8 0),(.int .u8 0),(.int .u8 0),(.int .u8 0),(.int .u8 0),(.int .u8 0),(.int .u8 0),(.int .u8 0),(.int .u8 0),(.int .u8 0),(.int .u8 0),(.int .u8 0),(.int .u8 0),(.int .u8 0),(.int .u8 0),(.int .u8 0),(.int .u8 0),(.int .u8 0),(.int .u8 0),(.int .u8 0),(.int .u8 0),(.int .u8 0),(.int .u8 0),(.int .u8 0),(.int .u8 0),(.int .u8 0),(.int .u8 0),(.int .u8 0),(.int .u8 0),(.int .u8 0),(.int .u8 0),(.int .u8 0),(.int .u8 0),(.int .u8 0),(.int .u8 0),(.int .u8 0),(.int .u8 0),(.int .u8 0),(.int .u8 0),(.int .u8 0),(.int .u8 0),(.int .u8 0),(.int .u8 0),(.int .u8 0),(.int .u8 0),(.int .u8 0)]),size:=64,bytes:=64,eqv:=true }:=
 ⟨by kernel_rfl,by kernel_rfl,fun _=>⟨by kernel_rfl,by kernel_rfl⟩,fun fs h=>(by cases h)⟩
theorem tOk:TOk Tryz.prog T:=fun t i h=>by
 have hm:=Fp h;simp only[T,List.mem_cons,List.not_mem_nil,or_false,Prod.mk.injEq]at hm;rcases hm with⟨rfl,rfl⟩|⟨rfl,rfl⟩|⟨rfl,rfl⟩|⟨rfl,rfl⟩|⟨rfl,rfl⟩|⟨rfl,rfl⟩|⟨rfl,rfl⟩|⟨rfl,rfl⟩|⟨rfl,rfl⟩|⟨rfl,rfl⟩|⟨rfl,rfl⟩|⟨rfl,rfl⟩|⟨rfl,rfl⟩|⟨rfl,rfl⟩|⟨rfl,rfl⟩|⟨rfl,rfl⟩|⟨rfl,rfl⟩|⟨rfl,rfl⟩|⟨rfl,rfl⟩|⟨rfl,rfl⟩|⟨rfl,rfl⟩|⟨rfl,rfl⟩|⟨rfl,rfl⟩|⟨rfl,rfl⟩|⟨rfl,rfl⟩|⟨rfl,rfl⟩|⟨rfl,rfl⟩|⟨rfl,rfl⟩|⟨rfl,rfl⟩|⟨rfl,rfl⟩|⟨rfl,rfl⟩|⟨rfl,rfl⟩|⟨rfl,rfl⟩|⟨rfl,rfl⟩|⟨rfl,rfl⟩|⟨rfl,rfl⟩|⟨rfl,rfl⟩|⟨rfl,rfl⟩|⟨rfl,rfl⟩|⟨rfl,rfl⟩|⟨rfl,rfl⟩|⟨rfl,rfl⟩|⟨rfl,rfl⟩|⟨rfl,rfl⟩|⟨rfl,rfl⟩|⟨rfl,rfl⟩|⟨rfl,rfl⟩|⟨rfl,rfl⟩|⟨rfl,rfl⟩|⟨rfl,rfl⟩|⟨rfl,rfl⟩|⟨rfl,rfl⟩|⟨rfl,rfl⟩|⟨rfl,rfl⟩|⟨rfl,rfl⟩|⟨rfl,rfl⟩|⟨rfl,rfl⟩|⟨rfl,rfl⟩|⟨rfl,rfl⟩|⟨rfl,rfl⟩|⟨rfl,rfl⟩|⟨rfl,rfl⟩|⟨rfl,rfl⟩|⟨rfl,rfl⟩|⟨rfl,rfl⟩|⟨rfl,rfl⟩|⟨rfl,rfl⟩|⟨rfl,rfl⟩|⟨rfl,rfl⟩|⟨rfl,rfl⟩|⟨rfl,rfl⟩|⟨rfl,rfl⟩|⟨rfl,rfl⟩|⟨rfl,rfl⟩|⟨rfl,rfl⟩|⟨rfl,rfl⟩
 ·exact x2r
 ·exact v2c
 ·exact x2t
 ·exact v2i
 ·exact v2j
 ·exact y2j
 ·exact z2p
 ·exact y2l
 ·exact z2a
 ·exact y2e
 ·exact z2q
 ·exact w2p
 ·exact w24
 ·exact z2g
 ·exact w2y
 ·exact w2g
 ·exact z2t
 ·exact w2f
 ·exact y2k
 ·exact w2t
 ·exact z29
 ·exact w2i
 ·exact y2g
 ·exact w23
 ·exact w2j
 ·exact z2u
 ·exact w2x
 ·exact w2k
 ·exact z2o
 ·exact z2z
 ·exact y2b
 ·exact c1q
 ·exact q2n
 ·exact q2k
 ·exact d1h
 ·exact q2y
 ·exact f1m
 ·exact d1s
 ·exact f1k
 ·exact f1c
 ·exact c1t
 ·exact d1c
 ·exact c1d
 ·exact g1l
 ·exact d1r
 ·exact f1p
 ·exact g1z
 ·exact g1k
 ·exact q2e
 ·exact d1m
 ·exact c17
 ·exact g1j
 ·exact f1i
 ·exact g1w
 ·exact g1v
 ·exact f1b
 ·exact d1u
 ·exact c14
 ·exact d1l
 ·exact c1f
 ·exact d1x
 ·exact c10
 ·exact c1u
 ·exact q2l
 ·exact d1z
 ·exact f1t
 ·exact q2p
 ·exact f1o
 ·exact d1i
 ·exact d1e
 ·exact f1g
 ·exact f1j
 ·exact q2f
 ·exact c1b
 ·exact c11
 ·exact c1p
theorem T2:look T 2=some { desc:= .int .i64,zero:=(.int .i64 0),size:=1,bytes:=8 }:=rfl
theorem T3:look T 3=some { desc:= .int .i64,zero:=(.int .i64 0),size:=1,bytes:=8 }:=rfl
theorem T4:look T 4=some { desc:= .bool,zero:=(.bool false),size:=1,bytes:=1 }:=rfl
theorem T5:look T 5=some { desc:= .int .u8,zero:=(.int .u8 0),size:=1,bytes:=1 }:=rfl
theorem T9:look T 9=some { desc:= .string,zero:=(.string ⟨#[]⟩),size:=1,bytes:=16 }:=rfl
theorem T22:look T 22=some { desc:= .slice 4,zero:=(.slice none 0 0),size:=1,bytes:=24 }:=rfl
theorem T23:look T 23=some { desc:= .slice 73,zero:=(.slice none 0 0),size:=1,bytes:=24 }:=rfl
theorem T25:look T 25=some { desc:= .struct #[{ name:= "Types",type:=3,offset:=0,embedded:=false,tag:= "",pkgPath:= "",byteOffset:=0 },{ name:= "Finals",type:=22,offset:=1,embedded:=false,tag:= "",pkgPath:= "",byteOffset:=8 },{ name:= "Moves",type:=23,offset:=2,embedded:=false,tag:= "",pkgPath:= "",byteOffset:=32 }],zero:=(.agg #[(.int .i64 0),(.slice none 0 0),(.slice none 0 0)]),size:=3,bytes:=56 }:=rfl
theorem T26:look T 26=some { desc:= .slice 52,zero:=(.slice none 0 0),size:=1,bytes:=24 }:=rfl
theorem T29:look T 29=some { desc:= .int .i64,zero:=(.int .i64 0),size:=1,bytes:=8 }:=rfl
theorem T35:look T 35=some { desc:= .slice 25,zero:=(.slice none 0 0),size:=1,bytes:=24 }:=rfl
theorem T41:look T 41=some { desc:= .slice 66,zero:=(.slice none 0 0),size:=1,bytes:=24 }:=rfl
theorem T43:look T 43=some { desc:= .struct #[{ name:= "Verdict",type:=3,offset:=0,embedded:=false,tag:= "",pkgPath:= "",byteOffset:=0 },{ name:= "Pairs",type:=41,offset:=1,embedded:=false,tag:= "",pkgPath:= "",byteOffset:=8 },{ name:= "Word",type:=26,offset:=2,embedded:=false,tag:= "",pkgPath:= "",byteOffset:=32 }],zero:=(.agg #[(.int .i64 0),(.slice none 0 0),(.slice none 0 0)]),size:=3,bytes:=56 }:=rfl
theorem T47:look T 47=some { desc:= .slice 3,zero:=(.slice none 0 0),size:=1,bytes:=24 }:=rfl
theorem T52:look T 52=some { desc:= .struct #[{ name:= "Type",type:=3,offset:=0,embedded:=false,tag:= "",pkgPath:= "",byteOffset:=0 },{ name:= "Num",type:=3,offset:=1,embedded:=false,tag:= "",pkgPath:= "",byteOffset:=8 }],zero:=(.agg #[(.int .i64 0),(.int .i64 0)]),size:=2,bytes:=16,eqv:=true }:=rfl
theorem T66:look T 66=some { desc:= .array 2 3,zero:=(.agg #[(.int .i64 0),(.int .i64 0)]),size:=2,bytes:=16,eqv:=true }:=rfl
theorem T68:look T 68=some { desc:= .slice 145,zero:=(.slice none 0 0),size:=1,bytes:=24 }:=rfl
theorem T70:look T 70=some { desc:= .struct #[{ name:= "Sets",type:=68,offset:=0,embedded:=false,tag:= "",pkgPath:= "",byteOffset:=0 }],zero:=(.agg #[(.slice none 0 0)]),size:=1,bytes:=24 }:=rfl
theorem T73:look T 73=some { desc:= .struct #[{ name:= "From",type:=3,offset:=0,embedded:=false,tag:= "",pkgPath:= "",byteOffset:=0 },{ name:= "To",type:=3,offset:=1,embedded:=false,tag:= "",pkgPath:= "",byteOffset:=8 },{ name:= "On",type:=70,offset:=2,embedded:=false,tag:= "",pkgPath:= "",byteOffset:=16 }],zero:=(.agg #[(.int .i64 0),(.int .i64 0),(.slice none 0 0)]),size:=3,bytes:=40 }:=rfl
theorem T79:look T 79=some { desc:= .map 3 4,zero:=(.map none),size:=1,bytes:=8 }:=rfl
theorem T84:look T 84=some { desc:= .pointer 91,zero:=(.pointer none),size:=1,bytes:=8 }:=rfl
theorem T87:look T 87=some { desc:= .slice 70,zero:=(.slice none 0 0),size:=1,bytes:=24 }:=rfl
theorem T88:look T 88=some { desc:= .slice 47,zero:=(.slice none 0 0),size:=1,bytes:=24 }:=rfl
theorem T89:look T 89=some { desc:= .map 9 3,zero:=(.map none),size:=1,bytes:=8 }:=rfl
theorem T91:look T 91=some { desc:= .struct #[{ name:= "a",type:=25,offset:=0,embedded:=false,tag:= "",pkgPath:= "tidegate/determinize",byteOffset:=0 },{ name:= "classes",type:=87,offset:=3,embedded:=false,tag:= "",pkgPath:= "tidegate/determinize",byteOffset:=56 },{ name:= "sets",type:=88,offset:=4,embedded:=false,tag:= "",pkgPath:= "tidegate/determinize",byteOffset:=80 },{ name:= "number",type:=89,offset:=5,embedded:=false,tag:= "",pkgPath:= "tidegate/determinize",byteOffset:=104 }],zero:=(.agg #[(.int .i64 0),(.slice none 0 0),(.slice none 0 0),(.slice none 0 0),(.slice none 0 0),(.map none)]),size:=6,bytes:=112 }:=rfl
theorem x2j:look T 103=some { desc:= .slice 23,zero:=(.slice none 0 0),size:=1,bytes:=24 }:=rfl
theorem v2m:look T 105=some { desc:= .struct #[{ name:= "Symbolic",type:=25,offset:=0,embedded:=true,tag:= "",pkgPath:= "",byteOffset:=0 },{ name:= "moves",type:=103,offset:=3,embedded:=false,tag:= "",pkgPath:= "tidegate/minimize",byteOffset:=56 }],zero:=(.agg #[(.int .i64 0),(.slice none 0 0),(.slice none 0 0),(.slice none 0 0)]),size:=4,bytes:=80 }:=rfl
theorem v2k:look T 109=some { desc:= .map 66 3,zero:=(.map none),size:=1,bytes:=8 }:=rfl
theorem x2c:look T 131=some { desc:= .struct #[{ name:= "x",type:=52,offset:=0,embedded:=false,tag:= "",pkgPath:= "tidegate/minimize",byteOffset:=0 },{ name:= "p",type:=3,offset:=2,embedded:=false,tag:= "",pkgPath:= "tidegate/minimize",byteOffset:=16 },{ name:= "q",type:=3,offset:=3,embedded:=false,tag:= "",pkgPath:= "tidegate/minimize",byteOffset:=24 }],zero:=(.agg #[(.int .i64 0),(.int .i64 0),(.int .i64 0),(.int .i64 0)]),size:=4,bytes:=32,eqv:=true }:=rfl
theorem Hi:look T 144=some { desc:= .struct #[{ name:= "Low",type:=3,offset:=0,embedded:=false,tag:= "",pkgPath:= "",byteOffset:=0 },{ name:= "High",type:=3,offset:=1,embedded:=false,tag:= "",pkgPath:= "",byteOffset:=8 }],zero:=(.agg #[(.int .i64 0),(.int .i64 0)]),size:=2,bytes:=16,eqv:=true }:=rfl
theorem Ps:look T 145=some { desc:= .slice 144,zero:=(.slice none 0 0),size:=1,bytes:=24 }:=rfl
theorem j1l:look T 174=some { desc:= .map 66 4,zero:=(.map none),size:=1,bytes:=8 }:=rfl
theorem y29:look T 176=some { desc:= .struct #[{ name:= "pair",type:=66,offset:=0,embedded:=false,tag:= "",pkgPath:= "tidegate/equivalence",byteOffset:=0 },{ name:= "from",type:=3,offset:=2,embedded:=false,tag:= "",pkgPath:= "tidegate/equivalence",byteOffset:=16 },{ name:= "on",type:=52,offset:=3,embedded:=false,tag:= "",pkgPath:= "tidegate/equivalence",byteOffset:=24 },{ name:= "first",type:=4,offset:=5,embedded:=false,tag:= "",pkgPath:= "tidegate/equivalence",byteOffset:=40 }],zero:=(.agg #[(.int .i64 0),(.int .i64 0),(.int .i64 0),(.int .i64 0),(.int .i64 0),(.bool false)]),size:=6,bytes:=48,eqv:=true }:=rfl
theorem y26:look T 177=some { desc:= .slice 176,zero:=(.slice none 0 0),size:=1,bytes:=24 }:=rfl
theorem y25:look T 184=some { desc:= .struct #[{ name:= "on",type:=52,offset:=0,embedded:=false,tag:= "",pkgPath:= "tidegate/equivalence",byteOffset:=0 },{ name:= "to",type:=66,offset:=2,embedded:=false,tag:= "",pkgPath:= "tidegate/equivalence",byteOffset:=16 }],zero:=(.agg #[(.int .i64 0),(.int .i64 0),(.int .i64 0),(.int .i64 0)]),size:=4,bytes:=32,eqv:=true }:=rfl
theorem x28:look T 199=some { desc:= .struct #[{ name:= "p",type:=3,offset:=0,embedded:=false,tag:= "",pkgPath:= "tidegate/tidegateref30",byteOffset:=0 },{ name:= "q",type:=3,offset:=1,embedded:=false,tag:= "",pkgPath:= "tidegate/tidegateref30",byteOffset:=8 },{ name:= "word",type:=26,offset:=2,embedded:=false,tag:= "",pkgPath:= "tidegate/tidegateref30",byteOffset:=16 }],zero:=(.agg #[(.int .i64 0),(.int .i64 0),(.slice none 0 0)]),size:=3,bytes:=40 }:=rfl
theorem x24:look T 200=some { desc:= .slice 199,zero:=(.slice none 0 0),size:=1,bytes:=24 }:=rfl
theorem y23:look T 212=some { desc:= .struct #[{ name:= "p",type:=22,offset:=0,embedded:=false,tag:= "",pkgPath:= "tidegate/tidegateref31",byteOffset:=0 },{ name:= "q",type:=22,offset:=1,embedded:=false,tag:= "",pkgPath:= "tidegate/tidegateref31",byteOffset:=24 },{ name:= "word",type:=26,offset:=2,embedded:=false,tag:= "",pkgPath:= "tidegate/tidegateref31",byteOffset:=48 }],zero:=(.agg #[(.slice none 0 0),(.slice none 0 0),(.slice none 0 0)]),size:=3,bytes:=72 }:=rfl
theorem y2v:look T 213=some { desc:= .slice 212,zero:=(.slice none 0 0),size:=1,bytes:=24 }:=rfl
theorem q2z:look T 230=some { desc:= .slice 5,zero:=(.slice none 0 0),size:=1,bytes:=24 }:=rfl
theorem y2s:look T 245=some { desc:= .slice 184,zero:=(.slice none 0 0),size:=1,bytes:=24 }:=rfl
theorem x20:look T 255=some { desc:= .int .u32,zero:=(.int .u32 0),size:=1,bytes:=4 }:=rfl
theorem v2h:look T 258=some { desc:= .int .u64,zero:=(.int .u64 0),size:=1,bytes:=8 }:=rfl
theorem x2d:look T 286=some { desc:= .slice 87,zero:=(.slice none 0 0),size:=1,bytes:=24 }:=rfl
theorem mixed:Tryz.prog.follows .mixedOrders=true:=by kernel_rfl
end Go.Abs
namespace Go.Abs
open Go Go.Proofs
def Kr:List Value:=Lib.pow10Tab.map fun z=>Value.int .u64 z
def w22(cs:List Value):Prop:=∃m,cs=[.int .i64 m]
def w2z(cs:List Value):Prop:=∃ev,cs=[ev]∧(ev= .nilIface∨∃te pe,ev= .iface te pe)
noncomputable instance env:Env Tryz.prog:=⟨[(0,(·=Kr))]⟩
section
variable {P:Program} [Env P]
def ctA(P:Program)[Env P](T:TT)(nt k:Nat):Code→(Exit→AS→Prop)→AS→Option Prop
 |.seq x y,Q,S=>ctA P T nt k x (A8 (AWP P nt k y Q) Q) S
 |.block i c,Q,S=>ctA P T nt k c (Kp i Q) S
 |.region _ ⟨l⟩ false,Q,S=>match Uh nt l with
  |true=>some (F6 P T nt k l.toArray (Q .normal) l S)
  |false=>none
 |.skip,Q,S=>some (Q .normal S)
 |.exit i,Q,S=>some (Q (.exit i) S)
 |.ret,Q,S=>some (Q .ret S)
 |_,_,_=>none
theorem v1r{T:TT}{nt k:Nat}(hT:TOk P T){X:Prop}(x:X):∀(c:Code) (Q:Exit→AS→Prop) (S:AS),ctA P T nt k c Q S=some X→AWP P nt k c Q S
 |.seq _ _,_,S,h=>Rc (v1r hT x _ _ S h)
 |.block _ _,_,S,h=>Te (v1r hT x _ _ S h)
 |.region i ⟨l⟩ false,Q,S,h=>by
  unfold ctA at h;split at h
  ·rename_i hd;cases h;exact Rv hT hd x
  ·cases h
 |.region _ ⟨_⟩ true,_,_,h=>nomatch h
 |.skip,_,_,h=>by cases h;exact Yx x
 |.exit _,_,_,h=>by cases h;exact M1 x
 |.ret,_,_,h=>by cases h;exact j0r x
 |.cond ..,_,_,h=>nomatch h
 |.loop ..,_,_,h=>nomatch h
 |.rangeFunc ..,_,_,h=>nomatch h
 |.scope ..,_,_,h=>nomatch h
 |.label ..,_,_,h=>nomatch h
 |.goto ..,_,_,h=>nomatch h
def cvA(P:Program)[Env P](nt k:Nat):Code→(Exit→AS→Prop)→AS→Option Prop
 |.seq x y,Q,S=>some (AWP P nt k x (A8 (AWP P nt k y Q) Q) S)
 |.block i c,Q,S=>some (AWP P nt k c (Kp i Q) S)
 |_,_,_=>none
theorem w2u{nt k:Nat}{X:Prop}(x:X):∀(c:Code) (Q:Exit→AS→Prop) (S:AS),cvA P nt k c Q S=some X→AWP P nt k c Q S
 |.seq _ _,_,_,h=>by cases h;exact Rc x
 |.block _ _,_,_,h=>by cases h;exact Te x
 |.region ..,_,_,h=>nomatch h
 |.skip,_,_,h=>nomatch h
 |.exit _,_,_,h=>nomatch h
 |.ret,_,_,h=>nomatch h
 |.cond ..,_,_,h=>nomatch h
 |.loop ..,_,_,h=>nomatch h
 |.rangeFunc ..,_,_,h=>nomatch h
 |.scope ..,_,_,h=>nomatch h
 |.label ..,_,_,h=>nomatch h
 |.goto ..,_,_,h=>nomatch h
end
theorem r_{nt k:Nat}{c:Code}{Q:Exit→AS→Prop}{S:AS}{X:Prop}(x:X)(h:ctA Tryz.prog T nt k c Q S=some X:=by rfl):AWP Tryz.prog nt k c Q S:=v1r tOk x c Q S h
theorem q_{nt k:Nat}{c:Code}{Q:Exit→AS→Prop}{S:AS}{X:Prop}(x:X)(h:cvA Tryz.prog nt k c Q S=some X:=by rfl):AWP Tryz.prog nt k c Q S:=w2u x c Q S h
theorem k0x{w:World}{I:Nat→Prop}(h:EOK Tryz.prog w I):Lib.TabIs Tryz.prog w "internal/strconv.uint64pow10" .u64 Lib.pow10Tab:=by
 obtain⟨_,_,t,fr,rfl,hb⟩:=h 0 (·=Kr) (by first|exact zJ.2 rfl|exact List.mem_cons_self)
 unfold Lib.TabIs World.var?;rw[show Tryz.prog.globalNamed "internal/strconv.uint64pow10" =some 0 by kernel_rfl]
 simp only[Option.bind_some,hb];rfl
end Go.Abs
namespace Go.Abs
open Go Go.Proofs
attribute [simp] T3 T4 T5 T9 q2z T29 x20 T2 v2h
theorem Ga{α:Type}{c:Bool}{a b:α}(h:c=true):(if c=true then a else b)=a:=by rw[if_pos h]
theorem U1{α:Type}{c:Bool}{a b:α}(h:c=false):(if c=true then a else b)=b:=by rw[if_neg (by rw[h];decide)]
@[simp] def encI (n:Int):AV:= .int .i64 n
abbrev AV.i (n:Int):AV:= .int .i64 n
abbrev W (n:Int):Int:=IntKind.i64.wrap n
theorem wrap_i64(n:Int)(h1: -9223372036854775808≤n)(h2:n≤9223372036854775807):IntKind.i64.wrap n=n:=by rw[IntKind.wrap_i64];omega
theorem wrap_one:IntKind.i64.wrap 1=1:=wrap_i64 _ (by omega) (by omega)
end Go.Abs
namespace Go.Abs
open Go Go.Proofs
attribute [simp] Hi Ps
structure Iv where
 lo:Int
 hi:Int
deriving Inhabited,DecidableEq
@[simp] def encIv (v:Iv):AV:= .agg [.int .i64 v.lo,.int .i64 v.hi]
abbrev LIv (l:List Iv):AV:= .list (l.map encIv)
def inB(n:Int):Bool:=decide (-1099511627776≤n) && decide (n≤1099511627776)
def Sr(x:Iv):Int:=if(!inB x.lo || !inB x.hi)=true then 2 else if decide (x.hi<x.lo)=true then 3 else 0
theorem c1i(a b:Int):(decide (a< -1099511627776) || decide (1099511627776<a) || decide (b< -1099511627776) || decide (1099511627776<b))=(!inB a || !inB b):=by unfold inB;rw[Bool.eq_iff_iff];simp;omega
theorem Et(a:Int):inB a=true↔ -1099511627776≤a∧a≤1099511627776:=by simp[inB]
theorem d0r(x:Iv):PC Tryz.prog 184 [encIv x] (fun r=>r= .i (Sr x)):=by
 refine Qs tOk Tryz.func184 rfl Tryz.results184 rfl (by simp[Tryz.ntmps184]) ?_;rw[Tryz.ntmps184];simp only[Qp];simp only[encIv];repeat first|(refine r_ ?_;simp)|refine q_ ?_
 rw[c1i];refine Ql rfl (fun h=> ?_) (fun h=> ?_)
 ·repeat first|(refine r_ ?_;simp)|refine q_ ?_
  rw[Sr,Ga h]
 repeat first|(refine r_ ?_;simp)|refine q_ ?_
 refine Ql rfl (fun h1=> ?_) (fun h1=> ?_)
 ·repeat first|(refine r_ ?_;simp)|refine q_ ?_
  rw[Sr,U1 h,Ga h1]
 repeat first|(refine r_ ?_;simp)|refine q_ ?_
 rw[Sr,U1 h,U1 h1]
theorem v0h(n:Int):PC Tryz.prog 298 [.i n] (fun r=>r= .bool (inB n)):=by
 refine Qs tOk Tryz.func298 rfl Tryz.results298 rfl (by simp[Tryz.ntmps298]) ?_;rw[Tryz.ntmps298];simp only[Qp];repeat first|(refine r_ ?_;simp)|refine q_ ?_
 rfl
attribute [local irreducible] inB
theorem k1p(x:Iv):PC Tryz.prog 251 [encIv x] (fun r=>r= .i (Sr x)):=by
 refine Qs tOk Tryz.func251 rfl Tryz.results251 rfl (by simp[Tryz.ntmps251]) ?_;rw[Tryz.ntmps251];simp only[Qp];simp only[encIv];repeat first|(refine r_ ?_;simp)|refine q_ ?_
 cases hp:inB x.lo with
 |false=>
  refine Qo rfl rfl (by simp) (v0h x.lo) rfl ?_;rintro _ rfl;simp[hp];refine Wm rfl rfl ?_;simp;refine Q1 rfl ?_;repeat first|(refine r_ ?_;simp)|refine q_ ?_
  rw[Sr,Ga (by rw[hp];rfl)]
 |true=>
  refine Qo rfl rfl (by simp) (v0h x.lo) rfl ?_;rintro _ rfl;simp[hp];refine Qo rfl rfl (by simp) (v0h x.hi) rfl ?_;rintro _ rfl;simp;have he:(!inB x.lo || !inB x.hi)= !inB x.hi:=by rw[hp];rfl
  refine Ql rfl (fun h=> ?_) (fun h=> ?_)
  ·repeat first|(refine r_ ?_;simp)|refine q_ ?_
   rw[Sr,he,Ga h]
  repeat first|(refine r_ ?_;simp)|refine q_ ?_
  refine Ql rfl (fun h1=> ?_) (fun h1=> ?_)
  ·repeat first|(refine r_ ?_;simp)|refine q_ ?_
   rw[Sr,he,U1 h,Ga h1]
  repeat first|(refine r_ ?_;simp)|refine q_ ?_
  rw[Sr,he,U1 h,U1 h1]
def f0u(l:List Iv)(j:Nat)(x:Iv):Bool:=decide (0<j) && (match l[j - 1]? with|some y=>decide (x.lo<W (y.hi+2))|none=>false)
def Ib(l:List Iv):Nat→List Iv→Int
 |_,[]=>0
 |j,x::r=>if(Sr x != 0)=true then Sr x else if f0u l j x=true then 14 else Ib l (j+1) r
def ckR(l:List Iv):Int:=if decide ((256:Int)<l.length)=true then 5 else Ib l 0 l
attribute [local irreducible] Sr
theorem W6{α:Type}{l:List α}{j:Nat}(h:j<l.length):l.drop j=l[j]::l.drop (j+1):=List.drop_eq_getElem_cons h
theorem q0r(l:List Iv):PC Tryz.prog 121 [LIv l] (fun r=>r= .i (ckR l)):=by
 refine Qs tOk Tryz.func121 rfl Tryz.results121 rfl (by simp[Tryz.ntmps121]) ?_;rw[Tryz.ntmps121];simp only[Qp];refine R6 0 rfl (fun hlen=> ?_);rw[zV]at hlen;repeat first|(refine r_ ?_;simp)|refine q_ ?_
 refine Ql rfl (fun h=> ?_) (fun h=> ?_)
 ·repeat first|(refine r_ ?_;simp)|refine q_ ?_
  rw[ckR,Ga h]
 repeat first|(refine r_ ?_;simp)|refine q_ ?_
 refine Q4 l.length (fun j=>Ib l 0 l=Ib l j (l.drop j)) (fun j=>[(0,LIv l),(9,LIv l),(10,.i l.length),(11,.i j)]) (fun _=>[]) rfl (by simp) (by simp) (by simp) (by simp) (by simp) ?_;intro j hj hI ih;repeat first|(refine r_ ?_;simp)|refine q_ ?_
 refine Ql rfl (fun za=> ?_) (fun zb=> ?_)
 ·have z1:j<l.length:=by simpa using za
  have hw:IntKind.i64.wrap ((j:Int)+1)=j+1:=wrap_i64 _ (by omega) (by omega);rw[W6 z1,Ib]at hI;repeat first|(refine r_ ?_;simp[z1])|refine q_ ?_
  refine Qo rfl rfl (by simp) (d0r l[j]) rfl ?_;rintro _ rfl;simp;repeat first|(refine r_ ?_;simp)|refine q_ ?_
  refine Ql rfl (fun h2=> ?_) (fun h2=> ?_)
  ·repeat first|(refine r_ ?_;simp)|refine q_ ?_
   rw[ckR,U1 h,hI,Ga h2]
  rw[U1 h2]at hI;repeat first|(refine r_ ?_;simp)|refine q_ ?_
  rcases j with _|j
  ·refine Qy tOk mixed [] (.val 0 (.val 1 (.val 2 (.val 3 (.val 4 (.val 5 (.val 6 (.val 7 (.val 8 (.val 9 (.val 10 (.val 11 (.val 12 (.val 13 (.done))))))))))))))) rfl (by kernel_rfl) ?_;simp[z1];refine Q1 rfl ?_;repeat first|(refine r_ ?_;simp[hw])|refine q_ ?_
   refine Q3 _ (ih z1 ?_) rfl (by simp) ?_ (by simp) (by simp)
   ·rw[hI,U1 (by simp[f0u])]
   ·simp[wrap_one]
  ·have z7:j<l.length:=by omega
   have z8:f0u l (j+1) l[j+1]=decide (l[j+1].lo<W (l[j].hi+2)):=by simp[f0u,z7]
   have zc:IntKind.i64.wrap ((j:Int)+1 - 1)=j:=by rw[wrap_i64 _ (by omega) (by omega)];omega
   have zd:IntKind.i64.wrap (j:Int)=j:=wrap_i64 _ (by omega) (by omega);have hp:(0:Int)<(j:Int)+1:=by omega
   have ze:IntKind.i64.wrap ((j:Int)+1+1)=j+1+1:=wrap_i64 _ (by omega) (by omega);have zf:((j:Int)+1).toNat=j+1:=by omega
   have zg:(0:Int)≤(j:Int)+1:=by omega
   have zh:(j:Int)+1<l.length:=by omega
   have zi:(j:Int)<l.length:=by omega
   refine Qy tOk mixed [] (.val 0 (.val 1 (.val 2 (.val 3 (.val 4 (.val 5 (.val 6 (.val 7 (.val 8 (.val 9 (.val 10 (.val 11 (.val 12 (.val 13 (.done))))))))))))))) rfl (by kernel_rfl) ?_;simp[z1,z7,zc,zd,hp,zf,zg,zh,zi];refine Ql rfl (fun h3=> ?_) (fun h3=> ?_)
   ·repeat first|(refine r_ ?_;simp)|refine q_ ?_
    rw[ckR,U1 h,hI,Ga (by rw[z8];exact h3)]
   ·rw[U1 (by rw[z8];exact h3)]at hI;repeat first|(refine r_ ?_;simp[ze])|refine q_ ?_
    refine Q3 _ (ih z1 hI) rfl (by simp) ?_ (by simp) (by simp);simp
 ·have z6:j=l.length:=by simp at zb;omega
  subst z6;repeat first|(refine r_ ?_;simp)|refine q_ ?_
  rw[ckR,U1 h,hI,yU];rfl
theorem v0u(l:List Iv):PC Tryz.prog 217 [LIv l] (fun r=>r= .i (ckR l)):=by
 refine Qs tOk Tryz.func217 rfl Tryz.results217 rfl (by simp[Tryz.ntmps217]) ?_;rw[Tryz.ntmps217];simp only[Qp];refine R6 0 rfl (fun hlen=> ?_);rw[zV]at hlen;repeat first|(refine r_ ?_;simp)|refine q_ ?_
 refine Ql rfl (fun h=> ?_) (fun h=> ?_)
 ·repeat first|(refine r_ ?_;simp)|refine q_ ?_
  rw[ckR,Ga h]
 repeat first|(refine r_ ?_;simp)|refine q_ ?_
 refine Q4 l.length (fun j=>Ib l 0 l=Ib l j (l.drop j)) (fun j=>[(0,LIv l),(3,.i j)]) (fun _=>[]) rfl (by simp) (by simp) (by simp) (by simp) (by simp) ?_;intro j hj hI ih;repeat first|(refine r_ ?_;simp)|refine q_ ?_
 refine Ql rfl (fun za=> ?_) (fun zb=> ?_)
 ·have z1:j<l.length:=by simpa using za
  have hw:IntKind.i64.wrap ((j:Int)+1)=j+1:=wrap_i64 _ (by omega) (by omega);rw[W6 z1,Ib]at hI;repeat first|(refine r_ ?_;simp[z1])|refine q_ ?_
  refine Qo rfl rfl (by simp) (k1p l[j]) rfl ?_;rintro _ rfl;simp;repeat first|(refine r_ ?_;simp)|refine q_ ?_
  refine Ql rfl (fun h2=> ?_) (fun h2=> ?_)
  ·repeat first|(refine r_ ?_;simp)|refine q_ ?_
   rw[ckR,U1 h,hI,Ga h2]
  rw[U1 h2]at hI;repeat first|(refine r_ ?_;simp)|refine q_ ?_
  rcases j with _|j
  ·refine Qy tOk mixed [] (.val 0 (.val 1 (.val 2 (.val 3 (.val 4 (.val 5 (.val 6 (.val 7 (.val 8 (.val 9 (.val 10 (.val 11 (.val 12 (.val 13 (.val 14 (.val 15 (.val 16 (.done)))))))))))))))))) rfl (by kernel_rfl) ?_;simp[z1];refine Q1 rfl ?_;repeat first|(refine r_ ?_;simp[hw])|refine q_ ?_
   refine Q3 _ (ih z1 ?_) rfl (by simp) ?_ (by simp) (by simp)
   ·rw[hI,U1 (by simp[f0u])]
   ·simp[wrap_one]
  ·have z7:j<l.length:=by omega
   have z8:f0u l (j+1) l[j+1]=decide (l[j+1].lo<W (l[j].hi+2)):=by simp[f0u,z7]
   have zc:IntKind.i64.wrap ((j:Int)+1 - 1)=j:=by rw[wrap_i64 _ (by omega) (by omega)];omega
   have zd:IntKind.i64.wrap (j:Int)=j:=wrap_i64 _ (by omega) (by omega);have hp:(0:Int)<(j:Int)+1:=by omega
   have ze:IntKind.i64.wrap ((j:Int)+1+1)=j+1+1:=wrap_i64 _ (by omega) (by omega);have zf:((j:Int)+1).toNat=j+1:=by omega
   have zg:(0:Int)≤(j:Int)+1:=by omega
   have zh:(j:Int)+1<l.length:=by omega
   have zi:(j:Int)<l.length:=by omega
   refine Qy tOk mixed [] (.val 0 (.val 1 (.val 2 (.val 3 (.val 4 (.val 5 (.val 6 (.val 7 (.val 8 (.val 9 (.val 10 (.val 11 (.val 12 (.val 13 (.val 14 (.val 15 (.val 16 (.done)))))))))))))))))) rfl (by kernel_rfl) ?_;simp[z1,z7,zc,zd,hp,zf,zg,zh,zi];refine Ql rfl (fun h3=> ?_) (fun h3=> ?_)
   ·repeat first|(refine r_ ?_;simp)|refine q_ ?_
    rw[ckR,U1 h,hI,Ga (by rw[z8];exact h3)]
   ·rw[U1 (by rw[z8];exact h3)]at hI;repeat first|(refine r_ ?_;simp[ze])|refine q_ ?_
    refine Q3 _ (ih z1 hI) rfl (by simp) ?_ (by simp) (by simp);simp
 ·have z6:j=l.length:=by simp at zb;omega
  subst z6;repeat first|(refine r_ ?_;simp)|refine q_ ?_
  rw[ckR,U1 h,hI,yU];rfl
end Go.Abs
namespace Go.Abs
open Go Go.Proofs
theorem Qn{H:List AObj}{i:Nat}{x:AObj}(h:H[i]? =some x)(G:List AObj):(H++G)[i]? =some x:=by rw[zE (zA.1 h).1];exact h
theorem Qu{H:List AObj}{i:Nat}{x:AObj}(h:H[i]? =some x)(G:List AObj)(y:AObj):(H++G).set i y=H.set i y++G:=
 List.set_append_left _ _ (zA.1 h).1
theorem v1e(H:List AObj)(x:AObj)(G:List AObj):(H++x::G)[H.length]? =some x:=by simp
theorem Qr{H:List AObj}{i j:Nat}{x:AObj}(z1:j≠i)(h:H[i]? =some x)(y:AObj):(H.set j y)[i]? =some x:=by rw[zB z1];exact h
theorem Qz{H:List AObj}{i:Nat}{x:AObj}(h:H[i]? =some x)(y:AObj):(H.set i y)[i]? =some y:=zH (zA.1 h).1
theorem Kb{P:Program}[Env P]{f:Nat}{args:List AV}{H0:List AObj}{R:AV→List AObj→Prop}(h:∀H1,H1=H0→FC P f args H1 R):FC P f args H0 R:=h _ rfl
end Go.Abs
/-
 DERIVED:THE SHELF's CONTRACTS AT THIS DUMP,IN PLAIN WORDS (tools/lay-plain.mjs out of 'TryzShelf.lean',which tools/lay-shelf.mjs wrote):THE SAME DECLARATIONS UNDER THE SAME NAMES:'import','namespace','open','def','theorem' AND NOTHING ELSE:no command of the shelf's:FOR A HAND-IN. Each laying:the table of numbers ('.._ren') and one theorem,a field a fact of the dump's own or the kernel's comparison;each contract:ONE APPLICATION.
-/
namespace Go.Proofs
open Go.Shelf
def Tryz.sortIv_ren:Go.Shelf.Ren:=⟨fun|6=>174|15=>199|14=>225|28=>244|29=>245|20=>263|21=>264|22=>265|23=>266|24=>267|25=>268|26=>269|27=>270|46=>306|47=>292|48=>293|49=>307|50=>308|57=>322|n=>n,fun|22=>145|24=>144|25=>233|3=>3|39=>189|0=>0|53=>255|55=>258|4=>4|46=>291|45=>290|50=>112|5=>5|9=>9|66=>327|70=>331|76=>349|77=>350|n=>n,fun|n=>n⟩
theorem Tryz.sortIv:Go.Proofs.SlLaysF0.n6 Tryz.prog Tryz.sortIv_ren:={
 mixed:=by kernel_rfl
 f6:=⟨Tryz.f174.name,by decide,Tryz.func174.trans (congrArg some (by kernel_rfl))⟩
 f14:=⟨Tryz.f225.name,by decide,Tryz.func225.trans (congrArg some (by kernel_rfl))⟩
 f15:=Tryz.func199.trans (congrArg some (by kernel_rfl))
 f20:=⟨Tryz.f263.name,by decide,Tryz.func263.trans (congrArg some (by kernel_rfl))⟩
 f21:=⟨Tryz.f264.name,by decide,Tryz.func264.trans (congrArg some (by kernel_rfl))⟩
 f22:=⟨Tryz.f265.name,by decide,Tryz.func265.trans (congrArg some (by kernel_rfl))⟩
 f23:=⟨Tryz.f266.name,by decide,Tryz.func266.trans (congrArg some (by kernel_rfl))⟩
 f24:=⟨Tryz.f267.name,by decide,Tryz.func267.trans (congrArg some (by kernel_rfl))⟩
 f25:=⟨Tryz.f268.name,by decide,Tryz.func268.trans (congrArg some (by kernel_rfl))⟩
 f26:=⟨Tryz.f269.name,by decide,Tryz.func269.trans (congrArg some (by kernel_rfl))⟩
 f27:=⟨Tryz.f270.name,by decide,Tryz.func270.trans (congrArg some (by kernel_rfl))⟩
 f28:=Tryz.func244.trans (congrArg some (by kernel_rfl))
 f29:=Tryz.func245.trans (congrArg some (by kernel_rfl))
 f46:=⟨Tryz.f306.name,by decide,Tryz.func306.trans (congrArg some (by kernel_rfl))⟩
 f47:=Tryz.func292.trans (congrArg some (by kernel_rfl))
 f48:=Tryz.func293.trans (congrArg some (by kernel_rfl))
 f49:=⟨Tryz.f307.name,by decide,Tryz.func307.trans (congrArg some (by kernel_rfl))⟩
 f50:=⟨Tryz.f308.name,by decide,Tryz.func308.trans (congrArg some (by kernel_rfl))⟩
 f57:=⟨Tryz.f322.name,by decide,Tryz.func322.trans (congrArg some (by kernel_rfl))⟩
 t0:=Tryz.underlying0
 a0:=Tryz.isAgg0
 z0:=Tryz.sizeOf0
 v0:=Tryz.zeroValue0
 t3:=Tryz.underlying3
 a3:=Tryz.isAgg3
 z3:=Tryz.sizeOf3
 v3:=Tryz.zeroValue3
 t4:=Tryz.underlying4
 a4:=Tryz.isAgg4
 z4:=Tryz.sizeOf4
 v4:=Tryz.zeroValue4
 t5:=Tryz.underlying5
 a5:=Tryz.isAgg5
 z5:=Tryz.sizeOf5
 v5:=Tryz.zeroValue5
 t9:=Tryz.underlying9
 a9:=Tryz.isAgg9
 z9:=Tryz.sizeOf9
 v9:=Tryz.zeroValue9
 t22:=Tryz.underlying145
 a22:=Tryz.isAgg145
 z22:=Tryz.sizeOf145
 v22:=Tryz.zeroValue145
 t25:=Tryz.underlying233
 a25:=Tryz.isAgg233
 z25:=Tryz.sizeOf233
 v25:=Tryz.zeroValue233
 t39:=Tryz.underlying189
 a39:=Tryz.isAgg189
 z39:=Tryz.sizeOf189
 v39:=Tryz.zeroValue189
 t45:=Tryz.underlying290
 a45:=Tryz.isAgg290
 z45:=Tryz.sizeOf290
 v45:=Tryz.zeroValue290
 t46:=Tryz.underlying291
 a46:=Tryz.isAgg291
 z46:=Tryz.sizeOf291
 v46:=Tryz.zeroValue291
 t50:=Tryz.underlying112
 a50:=Tryz.isAgg112
 z50:=Tryz.sizeOf112
 v50:=Tryz.zeroValue112
 t53:=Tryz.underlying255
 a53:=Tryz.isAgg255
 z53:=Tryz.sizeOf255
 v53:=Tryz.zeroValue255
 t55:=Tryz.underlying258
 a55:=Tryz.isAgg258
 z55:=Tryz.sizeOf258
 v55:=Tryz.zeroValue258
 t66:=Tryz.underlying327
 a66:=Tryz.isAgg327
 z66:=Tryz.sizeOf327
 v66:=Tryz.zeroValue327
 t70:=Tryz.underlying331
 a70:=Tryz.isAgg331
 z70:=Tryz.sizeOf331
 v70:=Tryz.zeroValue331
 t76:=Tryz.underlying349
 a76:=Tryz.isAgg349
 z76:=Tryz.sizeOf349
 v76:=Tryz.zeroValue349
 t77:=Tryz.underlying350
 a77:=Tryz.isAgg350
 z77:=Tryz.sizeOf350
 v77:=Tryz.zeroValue350 }
end Go.Proofs
/-
 DERIVED:THE SHELF's CONTRACTS AT THIS DUMP,IN PLAIN WORDS (tools/lay-plain.mjs out of 'TryzShelf.lean',which tools/lay-shelf.mjs wrote):THE SAME DECLARATIONS UNDER THE SAME NAMES:'import','namespace','open','def','theorem' AND NOTHING ELSE:no command of the shelf's:FOR A HAND-IN. Each laying:the table of numbers ('.._ren') and one theorem,a field a fact of the dump's own or the kernel's comparison;each contract:ONE APPLICATION.
-/
namespace Go.Proofs
open Go.Shelf
def Tryz.laysNm220_ren:Go.Shelf.Ren:=⟨fun|20=>172|n=>n,fun|22=>47|3=>3|4=>4|0=>0|n=>n,fun|n=>n⟩
theorem Tryz.laysNm220:Go.Proofs.Lays2.n20 Tryz.prog Tryz.laysNm220_ren:={
 mixed:=by kernel_rfl
 f20:=Tryz.func172.trans (congrArg some (by kernel_rfl))
 t0:=Tryz.underlying0
 a0:=Tryz.isAgg0
 z0:=Tryz.sizeOf0
 v0:=Tryz.zeroValue0
 t3:=Tryz.underlying3
 a3:=Tryz.isAgg3
 z3:=Tryz.sizeOf3
 v3:=Tryz.zeroValue3
 t4:=Tryz.underlying4
 a4:=Tryz.isAgg4
 z4:=Tryz.sizeOf4
 v4:=Tryz.zeroValue4
 t22:=Tryz.underlying47
 a22:=Tryz.isAgg47
 z22:=Tryz.sizeOf47
 v22:=Tryz.zeroValue47
 i3:=by kernel_rfl }
open Go.RowKit Go.Lib Go.Sort in
theorem Tryz.slices_Compact_int(z1 off cap:Nat)(zs:List Int)(w:World)(hH:Holds (Value.int .i64) w z1 off zs.toArray)(z6:zs.length≤9223372036854775807)(hcap:zs.length≤cap):
  Calls Tryz.prog 172 #[.slice (some ⟨z1,off,none⟩) zs.length cap] w fun e w'=>e= .returned (.slice (some ⟨z1,off,none⟩) (Lib.compact zs).length cap)∧∃q,w'=putRow (Value.int .i64) (Sort.ahead w q) z1 off (Lib.compact zs++zT (zs.length - (Lib.compact zs).length) 0).toArray:=Any.slices_Compact_int Tryz.laysNm220 z1 off cap zs w hH z6 hcap
open Go.RowKit Go.Lib Go.Sort in
theorem Tryz.slices_Compact_int_empty(a:Option Addr)(cap:Nat)(w:World):
  Calls Tryz.prog 172 #[.slice a 0 cap] w fun e w'=>e= .returned (.slice a 0 cap)∧w'=w:=Any.slices_Compact_int_empty Tryz.laysNm220 a cap w
def Tryz.laysSlC25_f133_ren:Go.Shelf.Ren:=⟨fun|5=>133|7=>200|n=>n,fun|22=>3|3=>3|4=>4|n=>n,fun|n=>n⟩
theorem Tryz.laysSlC25_f133:Go.Proofs.SlLaysC2.n5 Tryz.prog Tryz.laysSlC25_f133_ren:={
 mixed:=by kernel_rfl
 f5:=⟨Tryz.f133.name,by decide,Tryz.func133.trans (congrArg some (by kernel_rfl))⟩
 f7:=⟨Tryz.f200.name,by decide,Tryz.func200.trans (congrArg some (by kernel_rfl))⟩
 t3:=Tryz.underlying3
 a3:=Tryz.isAgg3
 z3:=Tryz.sizeOf3
 v3:=Tryz.zeroValue3
 t4:=Tryz.underlying4
 a4:=Tryz.isAgg4
 z4:=Tryz.sizeOf4
 v4:=Tryz.zeroValue4
 t22:=Tryz.underlying3
 a22:=Tryz.isAgg3
 z22:=Tryz.sizeOf3
 v22:=Tryz.zeroValue3 }
open Go.Lib in
theorem Tryz.cmp_Compare_int(x y:Int)(w:World):
  Calls Tryz.prog 133 #[.int .i64 x,.int .i64 y] w fun e w'=>e= .returned (.int .i64 (Lib.compareInt x y))∧w'=w:=AnyG.cmp_Compare_int Tryz.laysSlC25_f133 x y w
end Go.Proofs
namespace Go.Abs
open Go Go.Proofs Go.RowKit Go.Shelf Go.Lib Go.Sort
def Mz(x:Iv):List Value:=[.int .i64 x.lo,.int .i64 x.hi]
theorem q20(x y:Iv):ltOf (fun x y:Iv=>Lib.compareInt x.lo y.lo) x y=decide (x.lo<y.lo):=by
 unfold ltOf Lib.compareInt;by_cases h1:x.lo<y.lo
 ·simp[h1]
 ·by_cases h2:y.lo<x.lo<;>simp[h1,h2]
theorem z2m:SWO (ltOf fun x y:Iv=>Lib.compareInt x.lo y.lo) where
 irrefl x:=by rw[q20];simp
 trans x y z h1 h2:=by rw[q20]at *;simp at *;omega
 ntrans x y z h1 h2:=by rw[q20]at *;simp at *;omega
theorem c1x(l:List Iv):RowOf 2 (l.map encIv) (flatK Mz 2 l.toArray) where
 size:=by simp
 width x hx:=by obtain⟨y,_,rfl⟩:=zM.1 hx;rfl
 cell i x hx j y hy:=by
  rw[zQ]at hx;obtain⟨z,hz,rfl⟩:=zN.1 hx;obtain⟨hi,rfl⟩:=zA.1 hz;have hj:j<2:=(zA.1 hy).1;rw[get_flatK _ _ _ _ (by simp;omega)];rw[show(i * 2+j) / 2=i by omega,show(i * 2+j) % 2=j by omega];rw[getElem!_pos l.toArray i (by simpa using hi)]
  match j,hj with
  |0,_=>simp[encIv,AV.cells]at hy;subst hy;rfl
  |1,_=>simp[encIv,AV.cells]at hy;subst hy;rfl
theorem VR.fn0{w:World}{I:Nat→Prop}{m:Nat→Option Nat}{n g:Nat}{v:Value}(h:VR w I m n v (.fn (.func g) [] [])):v= .func (.func g) #[] #[]:=by
 cases h with
 |pure h=>
  cases h with
  |fn f vs us xs ys hl h hl' h'=>obtain rfl:vs= #[]:=wX.1 (by simpa using hl);obtain rfl:us= #[]:=wX.1 (by simpa using hl');rfl
 |fn f vs us xs ys hl h hl' h'=>obtain rfl:vs= #[]:=wX.1 (by simpa using hl);obtain rfl:us= #[]:=wX.1 (by simpa using hl');rfl
theorem Bu(g:Nat)(w:World)(I:Nat→Prop)(m:Nat→Option Nat)(n:Nat)(vs:List Value)(hl:vs.length=[AV.fn (.func g) [] []].length)(h:∀(i:Nat) (v:Value) (x:AV),vs[i]? =some v→[AV.fn (.func g) [] []][i]? =some x→VR w I m n v x):vs=[.func (.func g) #[] #[]]:=by
 match vs,hl with
 |[v],_=>have:=h 0 v _ rfl rfl;rw[VR.fn0 this]
def Bp(l:List Iv):Prop:=l.Pairwise (fun x y=>x.lo≤y.lo)
end Go.Abs
namespace Go.Abs
open Go Go.Proofs
end Go.Abs
namespace Go.Abs
open Go Go.Proofs
def Ej:List Iv→Iv→List Iv
 |acc,x=>match acc.getLast? with
  |some y=>if x.lo≤y.hi+1 then acc.dropLast++[⟨y.lo,if y.hi<x.hi then x.hi else y.hi⟩]else acc++[x]
  |none=>[x]
def O0(x:Iv):Prop:=inB x.lo=true∧inB x.hi=true
def x2f(x:Iv):Prop:= -4398046511104≤x.hi∧x.hi≤4398046511104
end Go.Abs
