/- Part Wb of the proof: steps on the way to the last part. No condition. -/
import Derived.Test.YtjmkolhkojgjpaaGreatDoorWa
import Derived.Lib.SliceRun
import Derived.Laws.CopyRow
import Derived.Lib.AppendZeros
import Derived.Lib.Overlaps
import Derived.ProofKit
import Derived.OpenShut
import Derived.Carry
import Derived.Deep.DeepHandedRow
import Derived.Lib.ConvBytes
import Derived.Laws.BytesString
import Derived.Laws.IdiomStrings
import Derived.Lib.BufferRead
import Derived.Lib.AppendStr
import Derived.Lib.Builder
import Derived.Lib.UnsafeStr
import Derived.Laws.Externs
import Derived.RangeFuncOwn
import Derived.RangeFuncNested
import Derived.Shelf.GgSortFunc.RowK
import Derived.Shelf.SlSortCmp.WholeK
import Derived.Shelf.SlSortCmp.NoneTotal
set_option linter.all false
open List renaming getElem?_eq_some_iff->zB,getElem?_append_left->zH,getElem?_set_self->zK,getElem?_set_ne->zE,getElem?_append_right->zF,length_set->w_,getElem?_take->xP,getElem?_range->tA,getElem?_map->zU,mem_iff_getElem?->yO,getElem_mem->zL,getElem?_eq_getElem->zI,all_eq_true->zX,mem_of_getElem?->zJ,eq_nil_of_length_eq_zero->wI,size_toArray->xS,nil_append->vM,mem_append->zV,all_cons->uA,ext_getElem?->xL,replicate->yF,getElem?_replicate->vF,take_zero->wB,map_cons->xJ,mem_map->zO,length_map->yE,getElem?_cons_zero->wA,drop_eq_nil_of_le->tf,drop_drop->sf,take_append_drop->xI,range'->uh,range'_succ->up,mem_cons->yB,range_eq_range'->uC,append_nil->yV
open Nat renaming lt_of_lt_of_le->wd,add_mul->yS,mul_le_mul_right->yI,add_comm->su,eq_zero_or_pos->wY,mod_lt->sC,mul_comm->tl,div_add_mod->se,le_refl->zS,zero_add->xZ,zero_mul->uU,one_mul->sh,le_trans->yP,le_succ->ul
open Option renaming getD_some->ww,map_some->wC,map_eq_some_iff->zQ,bind_eq_some_iff->xF
open Array renaming size_append->wX,getElem?_append_left->xB,getElem?_append_right->u7,mem_of_getElem?->uv,replicate->v_,getElem?_eq_some_iff->yT,getElem?_push->vN
open Bool renaming and_eq_true->z_
set_option maxRecDepth 100000
namespace Go.Abs
open Go
section
open Go.RowKit
section
variable {P:Program} [Env P] {T:TT} {nt k:Nat} {S:AS} {ops:Array Oper} {o:Oper} {R:AS->Prop}
section
variable {W0 w w':World} {I0 I:Nat->Prop} {m:Nat->Option Nat} {H:List AObj}
def WS.adopt (h:WS W0 I0 w I m H) {id:Nat} {o o':AObj} {b:Nat} (ho:H[id]?=some o) (hl:o.live=true) (hm:m id=some b) (hg:w.grownBy w' (some b))
  (z7:∀s,w.shape? b=some s->w'.shape? b=some s) (hO:∀m',Fut H.length w I m w' I m'->Ug w' I m' (H.length+1) (some b) o'):
  WS W0 I0 w' I (upd m H.length (some b)) (H.set id .dead++[o'])/\Fut H.length w I m w' I (upd m H.length (some b)):=by
 obtain⟨z8,z6,za⟩:=h.own id o b ho hl hm;have hid:id<H.length:=(zB.1 ho).1;have hf:Fut H.length w I m w' I (upd m H.length (some b)):=⟨⟨λ_ h=>h,λc hc=>hg.block c (h.iw c hc).1 (λe=>z6 (by injection e with e;exact e▸hc))⟩,λ_ hid=>Uo hid,λc s hs=>by
  by_cases hcb:c=b
  ·subst hcb;exact z7 s hs
  rw[R0 (hg.block c (Hk hs) (λe=>hcb (by injection e)))];exact hs⟩
 have z1:∀(k:Nat) (p:AObj),(H.set id .dead++[o'])[k]?=some p->(k<H.length/\p= .dead)\/(k<H.length/\k≠id/\H[k]?=some p)\/(k=H.length/\p=o'):=λk p hp=>by
  rcases Nat.lt_trichotomy k H.length with h1|h1|h1
  ·rw[zH (by simpa using h1)]at hp;by_cases hk:k=id
   ·subst hk;rw[zK h1]at hp;exact .inl ⟨h1,(Option.some.inj hp).symm⟩
   rw[zE (by omega)]at hp;exact .inr (.inl ⟨h1,hk,hp⟩)
  ·subst h1;rw[zF (by simp)]at hp;simp at hp;exact .inr (.inr ⟨rfl,hp.symm⟩)
  have:=(zB.1 hp).1;simp at this;omega
 refine⟨⟨h.below.grown hg h.below.size (λk hk=>by injection hk with hk;omega),h.i0,λc hc=>⟨wd (h.iw c hc).1 hg.size,(h.iw c hc).2⟩,λk p hp=>?_,λk p c hp lp mc=>?_,λi j oi oj c hi hj li lj mi mj=>?_⟩,hf⟩
 ·rw[List.length_append,w_,List.length_singleton];rcases z1 k p hp with⟨h1,rfl⟩|⟨h1,h2,h3⟩|⟨rfl,rfl⟩
  ·trivial
  ·rw[Uo h1];by_cases hlp:p.live=true
   ·exact(h.obj k p h3).mono hf (by omega) (λ_ c hc=>hg.block c (h.own k p c h3 hlp hc).2.2 (λe=>h2 (by injection e with e;subst e;exact h.inj k id p o c h3 ho hlp hl hc hm)))
   exact(h.obj k p h3).mono hf (by omega) (λhl'=>absurd hl' hlp)
  rw[Q6];exact hO _ hf
 ·rcases z1 k p hp with⟨h1,rfl⟩|⟨h1,h2,h3⟩|⟨rfl,rfl⟩
  ·simp[AObj.live]at lp
  ·rw[Uo h1]at mc;obtain⟨h3,h4,h5⟩:=h.own k p c h3 lp mc;exact⟨h3,h4,wd h5 hg.size⟩
  rw[Q6]at mc;cases mc;exact⟨z8,z6,wd za hg.size⟩
 rcases z1 i oi hi with⟨h1,rfl⟩|⟨h1,h2,h3⟩|⟨rfl,rfl⟩
 ·simp[AObj.live]at li
 ·rcases z1 j oj hj with⟨g1,rfl⟩|⟨g1,g2,g3⟩|⟨rfl,rfl⟩
  ·simp[AObj.live]at lj
  ·rw[Uo h1]at mi;rw[Uo g1]at mj;exact h.inj i j oi oj c h3 g3 li lj mi mj
  rw[Uo h1]at mi;rw[Q6]at mj;cases mj;exact absurd (h.inj i id oi o b h3 ho li hl mi hm) h2
 rcases z1 j oj hj with⟨g1,rfl⟩|⟨g1,g2,g3⟩|⟨rfl,rfl⟩
 ·simp[AObj.live]at lj
 ·rw[Uo g1]at mj;rw[Q6]at mi;cases mi;exact absurd (h.inj j id oj o b g3 ho lj hl mj hm) g2
 rfl
def Kp(H:List AObj):AV->Option (List AV)
 | .list ys=>some ys
 | .sl id c lo len=>match H[id]? with
  |some (.arr _ c' xs)=>if c=c'/\lo+len<=xs.length then some ((xs.drop lo).take len)else none
  |_=>none
 | .nils=>some []
 |_=>none
def J0(hw:WS W0 I0 w I m H){v:Value}{x:AV}{ys:List AV}(hv:VR w I m H.length v x)(h:Kp H x=some ys):
  ∃(ao:Option Addr) (cap:Nat) (u:Nat->Nat->Value),v= .slice ao ys.length cap/\
   (0<ys.length->∃ad,ao=some ad/\∃c,(∀y∈ys,y.cells.length=c)/\∀i j,i<ys.length->j<c->w.cell? (ad.add (i * c+j))=some (u i j))/\
   (∀(i:Nat) (x:AV),ys[i]?=some x->∀(j:Nat) (y:AV),x.cells[j]?=some y->PVR w I (u i j) y):=by
 cases x with
 |list zs=>simp only[Kp,Option.some.injEq]at h;subst h;obtain⟨a,cap,c,u,rfl,_,_,hc,ha,hu⟩:=hv.list_inv.list_inv;exact⟨a,cap,u,rfl,λh0=>by obtain⟨ad,e,_,hcell⟩:=ha h0;exact⟨ad,e,c,hc,hcell⟩,hu⟩
 |nils=>simp only[Kp,Option.some.injEq]at h;subst h;obtain rfl:=hv.nils_inv;exact⟨none,0,λ_ _=>undef,rfl,λh0=>by simp at h0,λi x hx=>by simp at hx⟩
 |sl id c lo len=>
  simp only[Kp]at h;split at h
  ·rename_i e c' xs ho;split at h
   ·rename_i hc;obtain⟨rfl,hl⟩:=hc;simp only[Option.some.injEq]at h;subst h;have hlen:((xs.drop lo).take len).length=len:=by simp;omega
    rcases hv.sl_inv with⟨b,cap,t,hb,hn,hs,hl',hmax,rfl⟩|⟨hb,hn,rfl,rfl,rfl⟩|⟨ad,hn,hlo,rfl,rfl⟩
    ·rcases hw.obj id _ ho with⟨e1,rfl⟩|⟨b',z1,vs,z6,hh,q1,q2,q3,q4,hr⟩
     ·rw[hb]at e1;cases e1
     obtain rfl:b=b':=by rw[hb]at z6;exact Option.some.inj z6
     refine⟨_,cap,λi j=>vs.getD ((lo+i) * c+j) undef,by rw[hlen],λ_=>⟨_,rfl,c,λx hx=>q4 x (List.mem_of_mem_drop (List.mem_of_mem_take hx)),λi j hi hj=>?_⟩,λi x hx j z hz=>?_⟩
     ·rw[hlen]at hi;rw[Addr.add_lit,cell_of_row w b _ vs e (0,0) hh];simp only[yS];have z7:(lo+i) * c+j<vs.size:=by rw[q3];have:(lo+i+1) * c<=z1 * c:=yI c (by omega);rw[yS (lo+i)]at this;omega
      rw[yS]at z7;rw[show lo * c+(i * c+j)=lo * c+i * c+j by omega];simp[z7]
     rw[xP]at hx;split at hx
     ·rw[List.getElem?_drop]at hx;obtain⟨v,hv,hp⟩:=hr (lo+i) x hx j z hz;simp only[Array.getD_eq_getD_getElem?,hv,ww];exact hp
     cases hx
    ·exact⟨none,0,λ_ _=>undef,by rw[hlen],λh0=>by simp at h0,λi x hx=>by simp at hx⟩
    exact⟨some ad,0,λ_ _=>undef,by rw[hlen],λh0=>by simp at h0,λi x hx=>by simp at hx⟩
   cases h
  cases h
 |_=>simp[Kp]at h
end
def Qx(u:Nat->Nat->Value)(n c:Nat):List Value:=(List.range (n * c)).map λq=>u (q / c) (q % c)
def Q1(u:Nat->Nat->Value)(n c:Nat):(Qx u n c).length=n * c:=by simp[Qx]
def Dj(u:Nat->Nat->Value)(n c i j:Nat)(hi:i<n)(hj:j<c):(Qx u n c)[i * c+j]?=some (u i j):=by
 have z1:i * c+j<n * c:=by have:(i+1) * c<=n * c:=yI c hi;rw[yS]at this;omega
 have h1:(i * c+j) / c=i:=by rw[su,Nat.add_mul_div_right _ _ (by omega),Nat.div_eq_of_lt hj];omega
 have h2:(i * c+j) % c=j:=by rw[su,Nat.add_mul_mod_self_right,Nat.mod_eq_of_lt hj]
 simp[Qx,tA z1,h1,h2]
def Uk(u:Nat->Nat->Value)(n c q:Nat)(v:Value)(h:(Qx u n c)[q]?=some v):q<n * c/\0<c/\q / c<n/\q % c<c/\q=q / c * c+q % c/\v=u (q / c) (q % c):=by
 have z1:q<n * c:=by have:=(zB.1 h).1;rwa [Q1]at this
 have hc:0<c:=by
  rcases wY c with h0|h0
  ·subst h0;simp at z1
  exact h0
 refine⟨z1,hc,(Nat.div_lt_iff_lt_mul hc).2 z1,sC _ hc,by rw[tl];exact(se q c).symm,?_⟩;simp only[Qx,zU,tA z1,wC,Option.some.injEq]at h;exact h.symm
def Ss(S:AS)(e:TypeId)(c:Nat):AV->Option (List AV×List AObj)
 | .nils=>some ([],S.hp)
 | .sl id c' 0 len=>match S.hp[id]? with
  |some (.arr e' c'' xs)=>if c'=c/\c''=c/\e'=e/\len=xs.length then some (xs,S.hp.set id .dead)else none
  |_=>none
 |_=>none
def M8 (hT:TOk P T) (hw:Qn ops S o=some true) {s x:Operand} {t e:TypeId} (ho:o.op= .call ⟨.builtin .append,#[s,x],#[t,t]⟩) {it ei:TI} (ht:look T t=some it) (hit:it.desc= .slice e) (he:look T e=some ei)
  (hz:ei.zero.cells.size=ei.size) (y2:0<ei.size) {sv xv:AV} (hs:rho S.sl s=some sv) (hx:rho S.sl x=some xv) {xs ys:List AV} {H1:List AObj} (hb:Ss S e ei.size sv=some (xs,H1)) (hy:Kp S.hp xv=some ys)
  (zw:∀y∈ys,y.cells.length=ei.size/\y.cells.all AV.leaf=true) (hbound:(xs.length+ys.length) * ei.bytes<=140737488355328) (hlen:xs.length+ys.length<=9223372036854775807) (hd:Wx nt o=true)
  (hR:R (({ S with hp:=H1++[.arr e ei.size (xs++ys)] }:AS).putD o.dst (.sl S.hp.length ei.size 0 (xs.length+ys.length)))):Q7 P nt k true ops o S R:=λC a w K Q hst hK=>by
 unfold OpW;rw[if_pos (hst.wanted hw)];obtain⟨I,m,zc,zr,hk,hE⟩:=hst;obtain⟨ao,cap,u,zk,hcell,zx⟩:=J0 zc (Ql zr hx) hy;have zy:=Ql zr hs;obtain⟨ti,zl,tz,ts,tb⟩:=hT.info he;have zi:=hT.und ht;rw[hit]at zi;have zm:H1.length=S.hp.length:=by
  unfold Ss at hb;split at hb
  ·simp only[Option.some.injEq,Prod.mk.injEq]at hb;rw[<-hb.2]
  ·split at hb
   ·split at hb
    ·simp only[Option.some.injEq,Prod.mk.injEq]at hb;rw[<-hb.2];simp
    cases hb
   cases hb
  cases hb
 -- what the run comes to decides all
 have fin:∀(v:Value) (w':World) (m':Nat->Option Nat),(Builtin.append_ #[t,t] o.type #[a.eval s,a.eval x]).run P w= .ok v w'->WS C.W0 C.I0 w' I m' (H1++[.arr e ei.size (xs++ys)])->Fut S.hp.length w I m w' I m'->
   VR w' I m' (S.hp.length+1) v (.sl S.hp.length ei.size 0 (xs.length+ys.length))->wpA P o a w K Q:=λv w' m' z6 g1 g2 g3=>by
  unfold wpA;have:(execOp a.eval o).run P w= .ok (.value v) w':=by simp[execOp,ho,resolve,invoke,builtin,z6]
  rw[this];exact hK _ _ w' hR (St.value zr hk hE g1 g2 (by simp[zm]) (Qi hd) (by simpa[zm]using g3)) (λe=>by cases e)
 -- nothing is appended
 have zero:ys=[]->∀(b0:Option Addr) (n0 c0:Nat),n0<=c0->a.eval s= .slice b0 n0 c0->(Builtin.append_ #[t,t] o.type #[a.eval s,a.eval x]).run P w= .ok (.slice b0 n0 c0) w:=λz8 b0 n0 c0 hle zn=>by rw[zn,zk,z8];cases ao<;>cases b0<;>simp[Builtin.append_,run_underlying zi,sizeOf,typeInfo,zl,Builtin.lenOf,Builtin.firstCells,hle,loadCells,loadCellsFrom,storeCells]
 -- a new row
 have newrow:∀(z7:Nat) (cs:Array Value),xs.length+ys.length<=z7->z7<=maxLen->cs.size=z7 * ei.size->
   (∀(i:Nat) (z:AV),(xs++ys)[i]?=some z->z.cells.length=ei.size/\∀(j:Nat) (y:AV),z.cells[j]?=some y->∃v,cs[i * ei.size+j]?=some v/\PVR w I v y)->
   (Builtin.append_ #[t,t] o.type #[a.eval s,a.eval x]).run P w= .ok (.slice (some ⟨w.heap.size,0,none⟩) (xs.length+ys.length) z7) (w.drew.alloc (.cells cs e))->WS C.W0 C.I0 w I m H1->wpA P o a w K Q:=λz7 cs h1 h2 h3 h4 z6 zo=>by
  have y3:Below w.heap.size w (w.drew.alloc (.cells cs e)):=(Below.refl _ _).drew.alloc (zS _) _;obtain⟨g1,g2⟩:=zo.push y3 (some w.heap.size) (λb e=>by injection e with e;subst e;simp) (.arr e ei.size (xs++ys)) (λm' hf hm=> .inr ⟨w.heap.size,z7,cs,rfl,heap_alloc_new w.drew _,by simpa using h1,h2,h3,
   λz zd=>by obtain⟨i,hi⟩:=yO.1 zd;exact(h4 i z hi).1,λi z hi j y hy=>by obtain⟨v,q1,q2⟩:=(h4 i z hi).2 j y hy;exact⟨v,q1,q2.mono hf.ext⟩⟩)
  rw[zm]at g1 g2;refine fin _ _ _ z6 g1 g2 ?_;have:=VR.sl (w:=w.drew.alloc (.cells cs e)) (I:=I) (m:=upd m S.hp.length (some w.heap.size)) (n:=S.hp.length+1) S.hp.length ei.size 0 (xs.length+ys.length) z7 w.heap.size e (by omega) (Q6 _ _ _)
   (by have:=heap_alloc_new w.drew (.cells cs e);simp only[World.size_drew]at this;simp only[World.shape?,this,h3,xZ]) h1 (by omega)
  simpa using this
 have zg:∀y∈ys,y.cells.length=ei.size:=λy hy=>(zw y hy).1;have news:0<ys.length->∃ad,ao=some ad/\∀(q:Nat) (v:Value),(Qx u ys.length ei.size)[q]?=some v->w.cell? (ad.add q)=some v:=λh0=>by
  obtain⟨ad,e1,c,h1,h2⟩:=hcell h0;have hc:c=ei.size:=by rw[<-h1 _ (zL h0),zg _ (zL h0)]
  subst hc;refine⟨ad,e1,λq v hq=>?_⟩;obtain⟨_,_,q1,q2,q3,rfl⟩:=Uk _ _ _ _ _ hq;have:=h2 _ _ q1 q2;rw[<-q3]at this;exact this
 have one:∀v∈Qx u ys.length ei.size,v.oneCell'=true:=λv hv=>by obtain⟨q,hq⟩:=yO.1 hv;obtain⟨_,_,q1,q2,q3,rfl⟩:=Uk _ _ _ _ _ hq;have y4:ys[q / ei.size]?=some ys[q / ei.size]:=zI q1;have yb:=zg _ (zL q1);have zz:(ys[q / ei.size]).cells[q % ei.size]?=some ((ys[q / ei.size]).cells[q % ei.size]'(by omega)):=zI (by omega);exact(VR.pure (m:=m) (n:=0) (zx _ _ y4 _ _ zz)).oneCell (zX.1 (zw _ (zL q1)).2 _ (zJ zz))
 have yrel:∀(i:Nat) (z:AV),ys[i]?=some z->∀(j:Nat) (y:AV),z.cells[j]?=some y->(Qx u ys.length ei.size)[i * ei.size+j]?=some (u i j)/\PVR w I (u i j) y:=λi z zd j y hy=>by have hi:=(zB.1 zd).1;have hj:=(zB.1 hy).1;rw[zg z (zJ zd)]at hj;exact⟨Dj _ _ _ _ _ hi hj,zx i z zd j y hy⟩
 have capw:∀zp,xs.length+ys.length<=grownCap w (xs.length+ys.length) zp e/\grownCap w (xs.length+ys.length) zp e<=maxLen:=λzp=>
  ⟨grownCap_ge _ _ _ _,grownCap_le_maxLen w _ zp e (by unfold maxLen;omega)⟩
 have fromNone:a.eval s= .slice none 0 0->xs=[]->WS C.W0 C.I0 w I m H1->wpA P o a w K Q:=λzn y5 zo=>by
  subst y5;rcases wY ys.length with h0|h0
  ·have z8:=wI h0;have z6:=zero z8 none 0 0 (zS _) zn;obtain⟨g1,g2⟩:=zo.push (Below.refl _ _) none (λb e=>by cases e) (.arr e ei.size ([]++ys)) (λm' _ _=> .inl ⟨rfl,by simp[z8]⟩);rw[zm]at g1 g2;refine fin _ _ _ z6 g1 g2 ?_;rw[h0];exact .slnone _ _ (by omega) (Q6 _ _ _)
  obtain⟨ad,rfl,za⟩:=news h0;have z6:=run_append_nil (P:=P) w t o.type e ti ei.zero zi zl tz ad ys.length cap (Qx u ys.length ei.size) (by rw[Q1,ts]) za h0 (by simp at hlen;omega) (by rw[tb];simp at hbound;omega);obtain⟨c1,c2⟩:=capw 0;simp only[List.length_nil,xZ]at c1 c2;refine newrow (grownCap w ys.length 0 e) _ (by simpa using c1) c2 ?_ ?_ (by rw[zn,zk];simpa using z6) zo
  ·simp only[wX,xS,Q1,size_zeroCells,hz,<-yS]
   congr 1;omega
  intro i z hi;simp only[vM]at hi;refine⟨zg z (zJ hi),λj y hy=>?_⟩;obtain⟨q1,q2⟩:=yrel i z hi j y hy;exact⟨_,by rw[xB (by simpa using(zB.1 q1).1)];simpa using q1,q2⟩
 unfold Ss at hb;split at hb
 ·simp only[Option.some.injEq,Prod.mk.injEq]at hb;obtain⟨rfl,rfl⟩:=hb;exact fromNone zy.nils_inv rfl zc
 ·rename_i id c' len;split at hb
  ·rename_i e' c'' z1 zq;split at hb
   ·rename_i hc;obtain⟨rfl,rfl,rfl,rfl⟩:=hc;simp only[Option.some.injEq,Prod.mk.injEq]at hb;obtain⟨rfl,rfl⟩:=hb;have zb:=zc.kill id;rcases zy.sl_inv with⟨b,cp,t',hb,hn,zt,hl',hmax,zh⟩|⟨hb,hn,_,yc,zh⟩|⟨ad,hn,hlo,_,_⟩
    ·rcases zc.obj id _ zq with⟨e1,_⟩|⟨b',y6,vs,zj,hh,q1,q2,q3,q4,hr⟩
     ·rw[hb]at e1;cases e1
     obtain rfl:b=b':=by rw[hb]at zj;exact Option.some.inj zj
     have y7:cp=y6:=by
      have:w.shape? b=some (e',vs.size):=by simp[World.shape?,hh]
      rw[this]at zt;simp only[Option.some.injEq,Prod.mk.injEq,xZ,q3]at zt;exact(Nat.eq_of_mul_eq_mul_right y2 zt.2).symm
     subst y7;simp only[uU]at zh;have xrel:∀(i:Nat) (z:AV),z1[i]?=some z->∀j,j<ei.size->i * ei.size+j<z1.length * ei.size:=λi z hi j hj=>by have:(i+1) * ei.size<=z1.length * ei.size:=yI _ (zB.1 hi).1;rw[yS]at this;omega
     have y8:z1.length * ei.size<=vs.size:=by rw[q3];exact yI _ q1
     have y0:∀(w':World),w'.shape? b=some (e',cp * ei.size)->z1.length+ys.length<=cp->VR w' I (upd m S.hp.length (some b)) (S.hp.length+1) (.slice (some ⟨b,0,none⟩) (z1.length+ys.length) cp) (.sl S.hp.length ei.size 0 (z1.length+ys.length)):=λw' y9 hle=>by have:=VR.sl (w:=w') (I:=I) (m:=upd m S.hp.length (some b)) (n:=S.hp.length+1) S.hp.length ei.size 0 (z1.length+ys.length) cp b e' (by omega) (Q6 _ _ _) (by simpa using y9) hle (by omega);simpa using this
     rcases wY ys.length with h0|h0
     ·have z8:=wI h0;have z6:=zero z8 _ _ _ hl' zh;obtain⟨g1,g2⟩:=zc.adopt (w':=w) (o':= .arr e' ei.size (z1++ys)) zq rfl hb (World.grownBy.refl _ _) (λ_ h=>h) (λm' hf=> .inr ⟨b,cp,vs,rfl,hh,by simp[z8,q1],q2,q3,by simpa[z8]using q4,by simpa[z8]using hr⟩);refine fin _ _ _ z6 g1 g2 ?_;have:=y0 w (by simp[World.shape?,hh,q3]) (by omega);rw[h0]at this |-;exact this
     obtain⟨ad,rfl,za⟩:=news h0;by_cases hroom:z1.length+ys.length<=cp
     ·have ze:z1.length * ti.size+(Qx u ys.length ei.size).length<=vs.size:=by rw[Q1,ts,q3,<-yS];exact yI _ hroom
      have z6:=run_append_room (P:=P) w t o.type e' ti zi zl b z1.length cp vs hh ad ys.length cap (Qx u ys.length ei.size) (by rw[Q1,ts]) za one hroom ze;rw[ts]at z6 ze;have zu:(vs.toList.take (z1.length * ei.size)++Qx u ys.length ei.size++vs.toList.drop (z1.length * ei.size+(Qx u ys.length ei.size).length)).toArray=spl vs (z1.length * ei.size) (Qx u ys.length ei.size).toArray:=by simp[spl]
      rw[zu]at z6;have y1:z1.length * ei.size+(Qx u ys.length ei.size).toArray.size<=vs.size:=by simpa using ze
      have zf:=Ut vs (z1.length * ei.size) (Qx u ys.length ei.size).toArray y1;obtain⟨g1,g2⟩:=zc.adopt (o':= .arr e' ei.size (z1++ys)) zq rfl hb (R4 w b (spl vs (z1.length * ei.size) (Qx u ys.length ei.size).toArray)) (Ye hh zf)
       (λm' hf=> .inr ⟨b,cp,_,rfl,setRow_heap w b vs _ e' _ hh,by simpa using hroom,q2,by rw[zf,q3],λz zd=>by
         rcases zV.1 zd with h1|h1
         ·exact q4 z h1
         ·exact zg z h1,λi z hi j y hy=>by
         rw[K9 _ _ _ _ y1];by_cases hix:i<z1.length
         ·rw[zH hix]at hi;have hj:j<ei.size:=by have:=(zB.1 hy).1;rw[q4 z (zJ hi)]at this;exact this
          have:=xrel i z hi j hj;rw[if_neg (by omega)];obtain⟨v,p1,p2⟩:=hr i z hi j y hy;exact⟨v,p1,p2.mono hf.ext⟩
         rw[zF (by omega)]at hi;obtain⟨p1,p2⟩:=yrel _ z hi j y hy;have p3:=(zB.1 p1).1;have p4:i * ei.size=z1.length * ei.size+(i - z1.length) * ei.size:=by rw[<-yS];congr 1;omega
         rw[if_pos (by simp only[xS];omega)];exact⟨_,by rw[show i * ei.size+j - z1.length * ei.size=(i - z1.length) * ei.size+j by omega];simpa using p1,p2.mono hf.ext⟩⟩)
      refine fin _ _ _ (by rw[zh,zk];exact z6) g1 g2 (y0 _ ?_ hroom);simp[World.shape?,setRow_heap w b vs _ e' _ hh,zf,q3]
     have holds:∀(j:Nat) (v:Value),(vs.toList.take (z1.length * ei.size))[j]?=some v->w.cell? ((⟨b,0,none⟩:Addr).add j)=some v:=λj v hj=>by
      rw[Addr.add_lit,xZ,cell_of_row w b j vs e' (0,0) hh];rw[xP]at hj;split at hj
      ·simpa using hj
      cases hj
     have z6:=run_append_grow (P:=P) w t o.type e' ti ei.zero zi zl tz ⟨b,0,none⟩ z1.length cp (vs.toList.take (z1.length * ei.size)) (by rw[ts];simp;omega) holds ad ys.length cap (Qx u ys.length ei.size) (by rw[Q1,ts]) za (by omega) (by omega)
      (growslice_fits (by omega) (by rw[tb];exact hbound))
     obtain⟨c1,c2⟩:=capw cp;refine newrow _ _ c1 c2 ?_ ?_ (by rw[zh,zk];exact z6) zb
     ·have:(vs.toList.take (z1.length * ei.size)).length=z1.length * ei.size:=by simp;omega
      simp only[wX,xS,Q1,size_zeroCells,hz,this,<-yS]
      congr 1;omega
     intro i z hi;have zv:(vs.toList.take (z1.length * ei.size)).length=z1.length * ei.size:=by simp;omega
     by_cases hix:i<z1.length
     ·rw[zH hix]at hi;refine⟨q4 z (zJ hi),λj y hy=>?_⟩;have hj:j<ei.size:=by have:=(zB.1 hy).1;rw[q4 z (zJ hi)]at this;exact this
      have ya:=xrel i z hi j hj;obtain⟨v,p1,p2⟩:=hr i z hi j y hy;refine⟨v,?_,p2⟩;rw[xB (by simp;omega),xB (by simp;omega),List.getElem?_toArray,xP,if_pos ya];simpa using p1
     rw[zF (by omega)]at hi;refine⟨zg z (zJ hi),λj y hy=>?_⟩;obtain⟨p1,p2⟩:=yrel _ z hi j y hy;have p3:=(zB.1 p1).1;have p4:i * ei.size=z1.length * ei.size+(i - z1.length) * ei.size:=by rw[<-yS];congr 1;omega
     refine⟨_,?_,p2⟩;rw[xB (by simp only[wX,xS,zv];omega),u7 (by simp only[xS,zv];omega)];simp only[xS,zv];rw[show i * ei.size+j - z1.length * ei.size=(i - z1.length) * ei.size+j by omega];simpa using p1
    ·rcases zc.obj id _ zq with⟨_,e1⟩|⟨b',_,_,zj,_⟩
     ·exact fromNone zh e1 zb
     rw[hb]at zj;cases zj
    omega
   cases hb
  cases hb
 cases hb
end
end
section
open Go.RowKit
section
variable {P:Program} [Env P] {T:TT} {nt k:Nat} {S:AS} {Q:Exit->AS->Prop}
def Lx(P:Program)[Env P](T:TT)(nt k:Nat)(ops:Array Oper)(Q:AS->Prop):List Oper->AS->Prop
 |[],S=>Q S
 |o::l,S=>if Sx o.op then(match L7 T ops S o with
   |some S'=>Lx P T nt k ops Q l S'
   |none=>Q7 P nt k true ops o S (Lx P T nt k ops Q l))
  else Q7 P nt k true ops o S (Lx P T nt k ops Q l)
def Xm(hT:TOk P T){ops:Array Oper}{R:AS->Prop}{C:Cx P}:∀(l:List Oper) (S:AS) (a:Act) (w:World),Us nt l=true->Lx P T nt k ops R l S->St C nt k S a w->I7 P ops (q2t C nt k R) l a w
 |[],S,a,w,_,h,hs=>w02 ⟨S,h,hs⟩
 |o::l,S,a,w,hd,h,hs=>by
  simp only[Us,uA,z_]at hd;unfold Lx at h;have key:Q7 P nt k true ops o S (Lx P T nt k ops R l):=by
   split at h
   ·split at h
    ·rename_i S' z1;exact Xa hT z1 hd.1 (λ_=>rfl) (by assumption) h
    exact h
   exact h
  have:=key C a w (I7 P ops (q2t C nt k R) l) (q2t C nt k R) hs (λS' a' w' hR z6 _=>Xm hT l S' a' w' hd.2 hR z6);unfold I7;exact this
def R6(hT:TOk P T){id:Nat}{l:List Oper}(hd:Us nt l=true)(h:Lx P T nt k l.toArray (Q .normal) l S):AWP P nt k (.region id l.toArray false) Q S:=λC a w hs=>
 Vn (Zh (Xm hT l S a w hd h hs))
def R8 {α:Type} {c:Code} (F:α->AS) (Inv:α->Prop) (mu:α->Nat)
  (h:∀x,Inv x->(∀y,Inv y->mu y<mu x->Uh P nt k c Q (F y))->AWP P nt k c (Pf (Uh P nt k c Q) Q) (F x)):∀x,Inv x->Uh P nt k c Q (F x):=by
 have key:∀n x,mu x=n->Inv x->Uh P nt k c Q (F x):=by
  intro n;induction n using Nat.strongRecOn with
  |_ n ih=>exact λx hx hI=>w01 (h x hI λy hy z1=>ih (mu y) (by omega) y rfl hy)
 exact λx hI=>key _ x rfl hI
def Qt {c:Code} {sl sl':List (Nat×AV)} {H H':List AObj} (G:List AObj) (h:Uh P nt k c Q ⟨sl',H'⟩) (hH:H=H'++G) (hk:k<=H'.length) (h0:Oq sl sl')
  (hu:sl'.all (λp=>p.2.under H'.length)=true) (z1:H'.all (Yq H'.length)=true):Uh P nt k c Q ⟨sl,H⟩:=by
 subst hH;exact Qo (sl':=sl') (Zv G h hk hu z1) h0
end
def j0f(g:Bool)(b:Bool):deref g (.bool b)=some (.bool b):=rfl
def g0o(H:List AObj)(b:Bool):Q8 H (.bool b)=some (.bool b):=by simp[Q8,AV.pure]
def k0o(H:List AObj)(b:Bool):W5 H (.bool b)=some (.bool b):=by simp[W5,Q8,AV.pure]
def k06(H:List AObj)(b:Bool):Ex H (.bool b)=some (.bool b):=by simp[Ex,W5,Q8,AV.pure]
def f0p(H:List AObj)(b:Bool):Ti H (.bool b)=some (.bool b):=by simp[Ti,Ex,W5,Q8,AV.pure]
def y1x(b:Bool):AV.nrm1 (.bool b)=(.bool b):=rfl
def j1t(b:Bool):AV.nrm (.bool b)=(.bool b):=rfl
def c0s(g:Bool)(k:IntKind)(n:Int):deref g (.int k n)=some (.int k n):=rfl
def d09(H:List AObj)(k:IntKind)(n:Int):Q8 H (.int k n)=some (.int k n):=by simp[Q8,AV.pure]
def y1w(H:List AObj)(k:IntKind)(n:Int):W5 H (.int k n)=some (.int k n):=by simp[W5,Q8,AV.pure]
def d0j(H:List AObj)(k:IntKind)(n:Int):Ex H (.int k n)=some (.int k n):=by simp[Ex,W5,Q8,AV.pure]
def u1g(H:List AObj)(k:IntKind)(n:Int):Ti H (.int k n)=some (.int k n):=by simp[Ti,Ex,W5,Q8,AV.pure]
def j1o(k:IntKind)(n:Int):AV.nrm1 (.int k n)=(.int k n):=rfl
def v2l(k:IntKind)(n:Int):AV.nrm (.int k n)=(.int k n):=rfl
def c0b(g:Bool)(s:List UInt8):deref g (.str s)=some (.str s):=rfl
def z1a(H:List AObj)(s:List UInt8):Q8 H (.str s)=some (.str s):=by simp[Q8,AV.pure]
def u1c(H:List AObj)(s:List UInt8):W5 H (.str s)=some (.str s):=by simp[W5,Q8,AV.pure]
def u1a(H:List AObj)(s:List UInt8):Ex H (.str s)=some (.str s):=by simp[Ex,W5,Q8,AV.pure]
def w1r(H:List AObj)(s:List UInt8):Ti H (.str s)=some (.str s):=by simp[Ti,Ex,W5,Q8,AV.pure]
def q2h(s:List UInt8):AV.nrm1 (.str s)=(.str s):=rfl
def v2y(s:List UInt8):AV.nrm (.str s)=(.str s):=rfl
def k0w(g:Bool)(s:List AV):deref g (.list s)=some (.list s):=rfl
def u05(H:List AObj)(s:List AV):Q8 H (.list s)=some (.list s):=by simp[Q8,AV.pure]
def g0z(H:List AObj)(s:List AV):W5 H (.list s)=some (.list s):=by simp[W5,Q8,AV.pure]
def j0o(H:List AObj)(s:List AV):Ex H (.list s)=some (.list s):=by simp[Ex,W5,Q8,AV.pure]
def f0g(H:List AObj)(s:List AV):Ti H (.list s)=some (.list s):=by simp[Ti,Ex,W5,Q8,AV.pure]
def c10(s:List AV):AV.nrm1 (.list s)=(.list s):=rfl
def k1i(s:List AV):AV.nrm (.list s)=(.list s):=rfl
def j0u(g:Bool):deref g .nils=some .nils:=rfl
def k0b(g:Bool):deref g .nilp=some .nilp:=rfl
def g0g(H:List AObj):Q8 H .nilp=some .nilp:=by simp[Q8,AV.pure]
def g0x(H:List AObj):W5 H .nilp=some .nilp:=by simp[W5,Q8,AV.pure]
def k01(H:List AObj):Ex H .nilp=some .nilp:=by simp[Ex,W5,Q8,AV.pure]
def k0u(H:List AObj):Ti H .nilp=some .nilp:=by simp[Ti,Ex,W5,Q8,AV.pure]
def c00:AV.nrm1 .nilp= .nilp:=rfl
def j1x:AV.nrm .nilp= .nilp:=rfl
def g0y(g:Bool):deref g .nilf=some .nilf:=rfl
def f0r(g:Bool):deref g .nili=some .nili:=rfl
def d0p(g:Bool):deref g .ifc=some .ifc:=rfl
def j0a(H:List AObj):Q8 H .nilf=some .nilf:=by simp[Q8,AV.pure]
def f0k(H:List AObj):Q8 H .nili=some .nili:=by simp[Q8,AV.pure]
def c0c(H:List AObj):Q8 H .ifc=some .ifc:=by simp[Q8,AV.pure]
def j0b(H:List AObj):W5 H .nilf=some .nilf:=by simp[W5,Q8,AV.pure]
def g06(H:List AObj):W5 H .nili=some .nili:=by simp[W5,Q8,AV.pure]
def w18(H:List AObj):W5 H .ifc=some .ifc:=by simp[W5,Q8,AV.pure]
def j07(H:List AObj):Ex H .nilf=some .nilf:=by simp[Ex,W5,Q8,AV.pure]
def k0j(H:List AObj):Ex H .nili=some .nili:=by simp[Ex,W5,Q8,AV.pure]
def w10(H:List AObj):Ex H .ifc=some .ifc:=by simp[Ex,W5,Q8,AV.pure]
def u09(H:List AObj):Ti H .nilf=some .nilf:=by simp[Ti,Ex,W5,Q8,AV.pure]
def g07(H:List AObj):Ti H .nili=some .nili:=by simp[Ti,Ex,W5,Q8,AV.pure]
def q1x(H:List AObj):Ti H .ifc=some .ifc:=by simp[Ti,Ex,W5,Q8,AV.pure]
def d0l:AV.nrm1 .nilf= .nilf:=rfl
def z1v:AV.nrm1 .nili= .nili:=rfl
def j1a:AV.nrm1 .ifc= .ifc:=rfl
def j1w:AV.nrm .nilf= .nilf:=rfl
def k1o:AV.nrm .nili= .nili:=rfl
def x2a:AV.nrm .ifc= .ifc:=rfl
def j01(g:Bool)(s:List AV):deref g (.iptr s)=some (.iptr s):=rfl
def g0n(H:List AObj)(s:List AV):Q8 H (.iptr s)=some (.iptr s):=by simp[Q8,AV.pure]
def j0r(H:List AObj)(s:List AV):W5 H (.iptr s)=some (.iptr s):=by simp[W5,Q8,AV.pure]
def k0e(H:List AObj)(s:List AV):Ex H (.iptr s)=some (.iptr s):=by simp[Ex,W5,Q8,AV.pure]
def g0s(H:List AObj)(s:List AV):Ti H (.iptr s)=some (.iptr s):=by simp[Ti,Ex,W5,Q8,AV.pure]
def c0t(s:List AV):AV.nrm1 (.iptr s)=(.iptr s):=rfl
def k1b(s:List AV):AV.nrm (.iptr s)=(.iptr s):=rfl
def d01(g:Bool):deref g .top=some .top:=rfl
def d02(H:List AObj):Q8 H .top=some .top:=by simp[Q8,AV.pure]
def u1k(H:List AObj):W5 H .top=some .top:=by simp[W5,Q8,AV.pure]
def c0p(H:List AObj):Ex H .top=some .top:=by simp[Ex,W5,Q8,AV.pure]
def x11(H:List AObj):Ti H .top=some .top:=by simp[Ti,Ex,W5,Q8,AV.pure]
def d1s:AV.nrm1 .top= .top:=rfl
def v2q:AV.nrm .top= .top:=rfl
def w1a(g:Bool)(s:List AV):deref g (.agg s)=some (.agg s):=rfl
def v1u(g:Bool)(s:List AV):deref g (.tup s)=some (.tup s):=rfl
def g1d(g:Bool)(f:Fn)(s t:List AV):deref g (.fn f s t)=some (.fn f s t):=rfl
def k0v(g:Bool)(a:Nat):deref g (.mref a)=some (.mref a):=rfl
def u1n(a:Nat):AV.pure (.mref a)=false:=by simp[AV.pure]
def u07(m a:Nat):AV.under m (.mref a)=decide (a<m):=by simp[AV.under]
def w1h(g:Bool)(a:Nat):deref g (.yld a)=some (.yld a):=rfl
def g1o(a:Nat):AV.pure (.yld a)=false:=by simp[AV.pure]
def d0a(m a:Nat):AV.under m (.yld a)=decide (a<m):=by simp[AV.under]
def k0k(g:Bool)(a b:Nat):deref g (.vptr a b)=some (.vptr a b):=rfl
def x16(g:Bool)(a b c d:Nat):deref g (.ept a b c d)=some (.ept a b c d):=rfl
def j1m(g:Bool)(a b c d:Nat):deref g (.sl a b c d)=some (.sl a b c d):=rfl
def Pp(g p:Bool)(x:AV):deref g (.opt p x)=if(!g || p)=true then some x else none:=rfl
def g0c(H:List AObj):Q8 H .nils=some (.list []):=rfl
def f0u(H:List AObj):W5 H .nils=some (.list []):=rfl
def k0c(H:List AObj):Ex H .nils=some (.list []):=rfl
def j0l(H:List AObj):Ti H .nils=some (.list []):=rfl
def x1h:AV.nrm1 .nils= .list []:=rfl
def d1i:AV.nrm .nils= .list []:=rfl
def g1l(s:List AV):AV.nrm1 (.agg s)= .agg s:=rfl
def k2i(f:Fn)(s t:List AV):AV.nrm1 (.fn f s t)= .fn f s t:=rfl
def k2o(s:List AV):AV.nrm (.agg s)= .agg (s.map AV.nrm1):=rfl
def d2f(f:Fn)(s t:List AV):AV.nrm (.fn f s t)= .fn f (s.map AV.nrm1) (t.map AV.nrm1):=rfl
def c0g(H:List AObj)(s:List AV):Q8 H (.agg s)=if s.all AV.pure=true then some (.agg s)else none:=by rw[Q8];simp[AV.pure];all_goals simp
def x1t(H:List AObj)(s:List AV):W5 H (.agg s)=Q8 H (.agg s):=rfl
def w1t(H:List AObj)(s:List AV):Ex H (.agg s)=(Qy (s.map (W5 H))).map .agg:=rfl
def v1h(H:List AObj)(s:List AV):Ti H (.agg s)=(Qy (s.map (W5 H))).map .agg:=rfl
def c03(H:List AObj)(s:List AV):Ti H (.tup s)=(Qy (s.map (Ex H))).map .tup:=rfl
def j1v(H:List AObj)(id c lo len:Nat):Q8 H (.sl id c lo len)=match H[id]? with
  |some (.arr _ c' xs)=>if c=c'/\lo+len<=xs.length then some (.list ((xs.drop lo).take len))else none
  |_=>none:=rfl
def g1y(H:List AObj)(id c lo len:Nat):W5 H (.sl id c lo len)=Q8 H (.sl id c lo len):=rfl
def k1m(H:List AObj)(id c lo len:Nat):Ex H (.sl id c lo len)=Q8 H (.sl id c lo len):=rfl
def c1m(H:List AObj)(id c lo len:Nat):Ti H (.sl id c lo len)=Q8 H (.sl id c lo len):=rfl
def k0i(H:List AObj)(id off:Nat):W5 H (.vptr id off)=match H[id]? with
  |some (.vars cs)=>(Qy (cs.map (Q8 H))).map λys=> .iptr (ys.drop off)
  |_=>none:=rfl
def g0u(H:List AObj)(id off:Nat):Ex H (.vptr id off)=W5 H (.vptr id off):=rfl
def g00(H:List AObj)(id off:Nat):Ti H (.vptr id off)=W5 H (.vptr id off):=rfl
def f1g(H:List AObj)(f:Fn)(xs ys:List AV):Ex H (.fn f xs ys)=match Qy (xs.map (W5 H)),Qy (ys.map (W5 H))with
  |some xs,some ys=>some (.fn f xs ys)
  |_,_=>none:=rfl
def j1u(H:List AObj)(f:Fn)(xs ys:List AV):Ti H (.fn f xs ys)=Ex H (.fn f xs ys):=rfl
def j12(cs:List AV):AV.pure (.agg cs)=cs.all AV.pure:=by rw[AV.pure];simp
def q2b(cs:List AV):AV.pure (.tup cs)=cs.all AV.pure:=by rw[AV.pure];simp
def y2f(f:Fn)(xs ys:List AV):AV.pure (.fn f xs ys)=(xs.all AV.pure && ys.all AV.pure):=by rw[AV.pure];simp
def x1g(b:Bool):AV.pure (.bool b)=true:=by simp[AV.pure]
def g1a(k:IntKind)(n:Int):AV.pure (.int k n)=true:=by simp[AV.pure]
def j11(s:List UInt8):AV.pure (.str s)=true:=by simp[AV.pure]
def w1s(s:List AV):AV.pure (.list s)=true:=by simp[AV.pure]
def x1v:AV.pure .nils=true:=by simp[AV.pure]
def d0e:AV.pure .nilp=true:=by simp[AV.pure]
def u1l:AV.pure .nilf=true:=by simp[AV.pure]
def x17:AV.pure .nili=true:=by simp[AV.pure]
def k19:AV.pure .ifc=true:=by simp[AV.pure]
def c1i:AV.pure .top=true:=by simp[AV.pure]
def d0c(s:List AV):AV.pure (.iptr s)=true:=by simp[AV.pure]
def y1p(a b:Nat):AV.pure (.vptr a b)=false:=by simp[AV.pure]
def d1v(a b c d:Nat):AV.pure (.ept a b c d)=false:=by simp[AV.pure]
def u2p(a b c d:Nat):AV.pure (.sl a b c d)=false:=by simp[AV.pure]
def flat_agg(cs:List AV):AV.flat (.agg cs)=cs.all AV.flat:=by rw[AV.flat];simp
def d1x(cs:List AV):AV.flat (.tup cs)=cs.all AV.flat:=by rw[AV.flat];simp
def w1z(b:Bool):AV.flat (.bool b)=true:=by simp[AV.flat]
def q20(k:IntKind)(n:Int):AV.flat (.int k n)=true:=by simp[AV.flat]
def c18(s:List UInt8):AV.flat (.str s)=true:=by simp[AV.flat]
def u1i(n:Nat)(cs:List AV):AV.under n (.agg cs)=cs.all (AV.under n):=by rw[AV.under];simp
def q1k(n:Nat)(cs:List AV):AV.under n (.tup cs)=cs.all (AV.under n):=by rw[AV.under];simp
def j19(n:Nat)(f:Fn)(xs ys:List AV):AV.under n (.fn f xs ys)=(xs.all (AV.under n) && ys.all (AV.under n)):=by rw[AV.under];simp
def j0x(m:Nat)(b:Bool):AV.under m (.bool b)=true:=by simp[AV.under]
def y1o(m:Nat)(k:IntKind)(n:Int):AV.under m (.int k n)=true:=by simp[AV.under]
def q1s(m:Nat)(s:List UInt8):AV.under m (.str s)=true:=by simp[AV.under]
def f0m(m:Nat)(s:List AV):AV.under m (.list s)=true:=by simp[AV.under]
def g0f(m:Nat)(s:List AV):AV.under m (.iptr s)=true:=by simp[AV.under]
def k03(m:Nat):AV.under m .nils=true:=by simp[AV.under]
def j06(m:Nat):AV.under m .nilp=true:=by simp[AV.under]
def f0d(m:Nat):AV.under m .nilf=true:=by simp[AV.under]
def j0q(m:Nat):AV.under m .nili=true:=by simp[AV.under]
def c01(m:Nat):AV.under m .ifc=true:=by simp[AV.under]
def x1p(m:Nat):AV.under m .top=true:=by simp[AV.under]
def y18(m:Nat)(p:Bool)(x:AV):AV.under m (.opt p x)=x.under m:=by simp[AV.under]
def k0m(m a b:Nat):AV.under m (.vptr a b)=decide (a<m):=by simp[AV.under]
def w1v(m a b c d:Nat):AV.under m (.ept a b c d)=decide (a<m):=by simp[AV.under]
def j1g(m a b c d:Nat):AV.under m (.sl a b c d)=decide (a<m):=by simp[AV.under]
attribute [simp] k0v u1n u07 w1h g1o d0a look put AS.putD ofConst rho Tg TI.agg Fz Sn z0y Iu Iq Nt Nv c2r c2d j2q Xs unA v1c setCells AV.cells AV.leaf AV.isTop C4 Yz bnd q00 d2w Sw c1v Qy Kl Pg Hl
 c08 y0g Mi w0m Dt X1 q0b G4 Xf Dl Zq A6 Xy A4 Zt Gs Mg j24 AV.withCells v02 Qn L7 N3
 isVal Sx Jt Lx Pf Xp Oq Yq TI.zeros zeroCell Qd Value.cells z27 c2p j2a j0f g0o k0o k06 f0p y1x j1t c0s d09 y1w d0j u1g j1o v2l c0b z1a u1c u1a w1r q2h v2y k0w u05 g0z j0o f0g c10 k1i j0u k0b g0g g0x k01 k0u c00 j1x g0y f0r d0p j0a f0k c0c j0b g06 w18 j07 k0j w10 u09 g07 q1x d0l z1v j1a j1w k1o x2a j01 g0n j0r k0e g0s c0t k1b d01 d02 u1k c0p x11 d1s v2q w1a v1u g1d k0k x16 j1m Pp g0c f0u k0c j0l x1h d1i g1l k2i k2o d2f c0g x1t w1t v1h c03 j1v g1y k1m c1m k0i g0u g00 f1g j1u c21 j12 q2b y2f x1g g1a j11 w1s x1v d0e u1l x17 k19 c1i d0c y1p d1v u2p flat_agg d1x w1z q20 c18 u1i q1k j19 j0x y1o q1s f0m g0f k03 j06 f0d j0q c01 x1p y18 k0m w1v j1g Kp Ss Un
end
section
open Go.RowKit
section
variable {P:Program} [Env P] {T:TT} {nt k:Nat} {Q:Exit->AS->Prop} {S:AS}
def qa{y:Code}(hT:TOk P T){id:Nat}{l:List Oper}(hd:Us nt l=true)(h:Lx P T nt k l.toArray (Pf (AWP P nt k y Q) Q .normal) l S):AWP P nt k (.seq (.region id l.toArray false) y) Q S:=Rn (R6 hT hd h)
def qb(hT:TOk P T){id:Nat}{l:List Oper}(hd:Us nt l=true)(h:Lx P T nt k l.toArray (Q .normal) l S):AWP P nt k (.region id l.toArray false) Q S:=R6 hT hd h
def d2k:Code->Option Exit
 | .skip=>some .normal
 | .exit id=>some (.exit id)
 | .ret=>some .ret
 |_=>none
def qh{c:Code}{e:Exit}(he:d2k c=some e)(h:Q e S):AWP P nt k c Q S:=by
 cases c<;>simp only[d2k,Option.some.injEq,reduceCtorEq]at he<;>subst he
 ·exact Uv h
 ·exact x0y h
 exact q1w h
def qf{id:Nat}{c:Code}(h:AWP P nt k c (Xp id Q) S):AWP P nt k (.block id c) Q S:=Tn h
def qg{x y:Code}(h:AWP P nt k x (Pf (AWP P nt k y Q) Q) S):AWP P nt k (.seq x y) Q S:=Rn h
end
end
section
open Go.RowKit
section
variable {P:Program} [Env P] {T:TT} {nt k:Nat} {S:AS} {Q:Exit->AS->Prop}
def Y5{c:Code}(t:Nat){xs:List AV}(h:look S.sl t=some (.list xs))(hk:xs.length<=9223372036854775807->AWP P nt k c Q S):AWP P nt k c Q S:=λC a w hs=>by obtain⟨I,m,hw,z1,z6,hf⟩:=hs;obtain⟨v,_,hv⟩:=z1.2.2 t _ h;obtain⟨_,cap,_,_,_,h1,h2,_⟩:=hv.list_inv.list_inv;exact hk (by unfold maxLen at h2;omega) C a w ⟨I,m,hw,z1,z6,hf⟩
def Wv{c:Code}(t i:Nat){cs xs:List AV}(h:look S.sl t=some (.agg cs))(hi:cs[i]?=some (.list xs))(hk:xs.length<=9223372036854775807->AWP P nt k c Q S):AWP P nt k c Q S:=λC a w hs=>by
 obtain⟨I,m,hw,z6,z7,hf⟩:=hs;obtain⟨v,_,hv⟩:=z6.2.2 t _ h;obtain⟨vs,rfl,hl,z1⟩:=hv.agg_inv;have z8:i<vs.size:=by rw[hl];exact(zB.1 hi).1
 have za:=z1 i vs[i] _ (by simp[z8]) hi;obtain⟨_,cap,_,_,_,h1,h2,_⟩:=za.list_inv.list_inv;exact hk (by unfold maxLen at h2;omega) C a w ⟨I,m,hw,z6,z7,hf⟩
def Qr {c:Code} (n:Nat) (Inv:Nat->Prop) (sl:Nat->List (Nat×AV)) (H:Nat->List AObj) {z1:List (Nat×AV)} {H0 G:List AObj} (hH:H0=H 0++G) (hk:k<=(H 0).length) (h0:Oq z1 (sl 0))
  (hu:(sl 0).all (λp=>p.2.under (H 0).length)=true) (z6:(H 0).all (Yq (H 0).length)=true) (hI:Inv 0)
  (h:∀j,j<=n->Inv j->(j<n->Inv (j+1)->Uh P nt k c Q ⟨sl (j+1),H (j+1)⟩)->AWP P nt k c (Pf (Uh P nt k c Q) Q) ⟨sl j,H j⟩):AWP P nt k (.loop c) Q ⟨z1,H0⟩:=by
 subst hH;refine R9 (Qo (sl':=sl 0) (Zv G ?_ hk hu z6) h0);exact R8 (F:=λj=>⟨sl j,H j⟩) (λj=>j<=n/\Inv j) (λj=>n - j) (λj hj ih=>h j hj.1 hj.2 λz7 hi=>ih (j+1) ⟨by omega,hi⟩ (by omega)) 0 ⟨Nat.zero_le _,hI⟩
end
def g0l(g:Bool)(x:AV):deref g (.opt g x)=some x:=by rw[Pp];cases g<;>rfl
def g0e(g p:Bool)(x:AV):deref (g && p) (.opt g x)=some x:=by rw[Pp];cases g<;>cases p<;>rfl
def j05(g p:Bool)(x:AV):deref (p && g) (.opt g x)=some x:=by rw[Pp];cases g<;>cases p<;>rfl
def y0v(g p q:Bool)(x:AV):deref ((g && p) && q) (.opt g x)=some x:=by rw[Pp];cases g<;>cases p<;>cases q<;>rfl
attribute [simp high] g0l g0e j05 y0v
end
section
open Go.RowKit
def AV.ren(s:Nat->Nat):AV->AV
 | .agg cs=> .agg (cs.attach.map λ⟨x,_⟩=>x.ren s)
 | .tup cs=> .tup (cs.attach.map λ⟨x,_⟩=>x.ren s)
 | .fn f xs ys=> .fn f (xs.attach.map λ⟨x,_⟩=>x.ren s) (ys.attach.map λ⟨x,_⟩=>x.ren s)
 | .vptr id off=> .vptr (s id) off
 | .yld id=> .yld (s id)
 | .mref id=> .mref (s id)
 | .ept id c i off=> .ept (s id) c i off
 | .sl id c lo len=> .sl (s id) c lo len
 | .opt p x=> .opt p (x.ren s)
 |x=>x
section
variable (s:Nat->Nat)
def u2l(cs:List AV):(AV.agg cs).ren s= .agg (cs.map (AV.ren s)):=by rw[AV.ren];simp
def k2w(cs:List AV):(AV.tup cs).ren s= .tup (cs.map (AV.ren s)):=by rw[AV.ren];simp
def g2m(f:Fn)(xs ys:List AV):(AV.fn f xs ys).ren s= .fn f (xs.map (AV.ren s)) (ys.map (AV.ren s)):=by rw[AV.ren];simp
def d1g(b:Bool):(AV.bool b).ren s= .bool b:=by simp[AV.ren]
def k2x(k:IntKind)(n:Int):(AV.int k n).ren s= .int k n:=by simp[AV.ren]
def x27(x:List UInt8):(AV.str x).ren s= .str x:=by simp[AV.ren]
def f1o(x:List AV):(AV.list x).ren s= .list x:=by simp[AV.ren]
def j1y(x:List AV):(AV.iptr x).ren s= .iptr x:=by simp[AV.ren]
def f1m:(AV.nils).ren s= .nils:=by simp[AV.ren]
def f1e:(AV.nilp).ren s= .nilp:=by simp[AV.ren]
def q2f:(AV.nilf).ren s= .nilf:=by simp[AV.ren]
def k12:(AV.nili).ren s= .nili:=by simp[AV.ren]
def y29:(AV.ifc).ren s= .ifc:=by simp[AV.ren]
def x22:(AV.top).ren s= .top:=by simp[AV.ren]
def d1u(a:Nat):(AV.mref a).ren s= .mref (s a):=by simp[AV.ren]
def k2y(a:Nat):(AV.yld a).ren s= .yld (s a):=by simp[AV.ren]
def j1s(a b:Nat):(AV.vptr a b).ren s= .vptr (s a) b:=by simp[AV.ren]
def y2z(a b c d:Nat):(AV.ept a b c d).ren s= .ept (s a) b c d:=by simp[AV.ren]
def g28(a b c d:Nat):(AV.sl a b c d).ren s= .sl (s a) b c d:=by simp[AV.ren]
def z2w(p:Bool)(x:AV):(AV.opt p x).ren s= .opt p (x.ren s):=by simp[AV.ren]
end
def AObj.ren(s:Nat->Nat):AObj->AObj
 | .vars cs=> .vars (cs.map (AV.ren s))
 | .arr e c xs=> .arr e c xs
 | .dead=> .dead
 | .tag id t=> .tag (s id) t
 | .lp rdy pend nt sl ps asg body=> .lp rdy pend nt (sl.map λp=>(p.1,p.2.ren s)) ps asg body
 | .mp kvs=> .mp kvs
 | .va e c xs=> .va e c (xs.map (AV.ren s))
 | .it left cur=> .it left cur
 | .fm kvs=> .fm kvs
 | .mv kvs=> .mv (kvs.map λp=>(p.1,p.2.ren s))
def rn(ix:List Nat)(i:Nat):Nat:=ix.getD i i
section
variable {P:Program} [Env P] {nt k:Nat} {Q:Exit->AS->Prop}
end
def f2u(ix:List Nat)(i:Nat):rn ix i=ix.getD i i:=rfl
attribute [simp] d1u k2y u2l k2w g2m d1g k2x x27 f1o j1y f1m f1e q2f k12 y29 x22 j1s y2z g28 z2w AObj.ren f2u
end
section
open Go.RowKit
section
variable {P:Program} [Env P] {T:TT} {nt k:Nat} {S:AS} {ops:Array Oper} {o:Oper} {R:AS->Prop}
def Wo(ei:TI)(xs ys:List AV):Prop:=(∀y∈ys,y.cells.length=ei.size/\y.cells.all AV.leaf=true)/\(xs.length+ys.length) * ei.bytes<=140737488355328
def Cm (hT:TOk P T) (hw:Qn ops S o=some true) {s x:Operand} {t e:TypeId} (ho:o.op= .call ⟨.builtin .append,#[s,x],#[t,t]⟩) {it ei:TI} (ht:look T t=some it) (hit:it.desc= .slice e) (he:look T e=some ei)
  (hz:ei.zero.cells.size=ei.size) (z1:0<ei.size) (z6:0<ei.bytes) {sv xv:AV} (hs:rho S.sl s=some sv) (hx:rho S.sl x=some xv) (hd:Wx nt o=true)
  (hR:match Ss S e ei.size sv,Kp S.hp xv with
   |some (xs,H1),some ys=>Wo ei xs ys/\R (({ S with hp:=H1++[.arr e ei.size (xs++ys)] }:AS).putD o.dst (.sl S.hp.length ei.size 0 (xs.length+ys.length)))
   |_,_=>False):Q7 P nt k true ops o S R:=by
 cases hb:Ss S e ei.size sv with
 |none=>rw[hb]at hR;exact hR.elim
 |some p=>
  obtain⟨xs,H1⟩:=p;cases hy:Kp S.hp xv with
  |none=>rw[hb,hy]at hR;exact hR.elim
  |some ys=>rw[hb,hy]at hR;obtain⟨⟨h1,h2⟩,h3⟩:=hR;refine M8 hT hw ho ht hit he hz z1 hs hx hb hy h1 h2 ?_ hd h3;have:=Nat.le_mul_of_pos_right (xs.length+ys.length) z6;omega
end
end
section
open Go.RowKit
def AV.fz(i c:Nat)(xs:List AV):AV->AV
 | .agg cs=> .agg (cs.attach.map λ⟨x,_⟩=>x.fz i c xs)
 | .tup cs=> .tup (cs.attach.map λ⟨x,_⟩=>x.fz i c xs)
 | .fn f ys zs=> .fn f (ys.attach.map λ⟨x,_⟩=>x.fz i c xs) (zs.attach.map λ⟨x,_⟩=>x.fz i c xs)
 | .sl id c' lo len=>if id=i/\c'=c/\lo+len<=xs.length then .list ((xs.drop lo).take len)else .sl id c' lo len
 | .opt p x=> .opt p (x.fz i c xs)
 |x=>x
section
variable (i c:Nat) (xs:List AV)
def Zm(cs:List AV):(AV.agg cs).fz i c xs= .agg (cs.map (AV.fz i c xs)):=by rw[AV.fz];simp
def y1n(cs:List AV):(AV.tup cs).fz i c xs= .tup (cs.map (AV.fz i c xs)):=by rw[AV.fz];simp
def x2f(f:Fn)(ys zs:List AV):(AV.fn f ys zs).fz i c xs= .fn f (ys.map (AV.fz i c xs)) (zs.map (AV.fz i c xs)):=by rw[AV.fz];simp
def v27(b:Bool):(AV.bool b).fz i c xs= .bool b:=by simp[AV.fz]
def j21(k:IntKind)(n:Int):(AV.int k n).fz i c xs= .int k n:=by simp[AV.fz]
def g25(x:List UInt8):(AV.str x).fz i c xs= .str x:=by simp[AV.fz]
def x1b(x:List AV):(AV.list x).fz i c xs= .list x:=by simp[AV.fz]
def x2c(x:List AV):(AV.iptr x).fz i c xs= .iptr x:=by simp[AV.fz]
def y2t:(AV.nils).fz i c xs= .nils:=by simp[AV.fz]
def k2b:(AV.nilp).fz i c xs= .nilp:=by simp[AV.fz]
def k2p:(AV.nilf).fz i c xs= .nilf:=by simp[AV.fz]
def y2y:(AV.nili).fz i c xs= .nili:=by simp[AV.fz]
def g26:(AV.ifc).fz i c xs= .ifc:=by simp[AV.fz]
def f2x:(AV.top).fz i c xs= .top:=by simp[AV.fz]
def v13(a:Nat):(AV.mref a).fz i c xs= .mref a:=by simp[AV.fz]
def w2u(a:Nat):(AV.yld a).fz i c xs= .yld a:=by simp[AV.fz]
def v1i(a b:Nat):(AV.vptr a b).fz i c xs= .vptr a b:=by simp[AV.fz]
def z2g(a b d e:Nat):(AV.ept a b d e).fz i c xs= .ept a b d e:=by simp[AV.fz]
def k13(id c' lo len:Nat):(AV.sl id c' lo len).fz i c xs=if id=i/\c'=c/\lo+len<=xs.length then .list ((xs.drop lo).take len)else .sl id c' lo len:=by rw[AV.fz]
def w2w(p:Bool)(x:AV):(AV.opt p x).fz i c xs= .opt p (x.fz i c xs):=by simp[AV.fz]
end
def AObj.fz(i c:Nat)(xs:List AV):AObj->AObj
 | .vars cs=> .vars (cs.map (AV.fz i c xs))
 | .arr e c' ys=> .arr e c' ys
 | .dead=> .dead
 | .tag id t=> .tag id t
 | .lp rdy pend nt sl ps asg body=> .lp rdy pend nt (sl.map λp=>(p.1,p.2.fz i c xs)) ps asg body
 | .mp kvs=> .mp kvs
 | .va e c' ys=> .va e c' (ys.map (AV.fz i c xs))
 | .it left cur=> .it left cur
 | .fm kvs=> .fm kvs
 | .mv kvs=> .mv (kvs.map λp=>(p.1,p.2.fz i c xs))
def u0v(i c:Nat)(xs:List AV)(x:AV):(x.fz i c xs).cells=x.cells.map (AV.fz i c xs):=by
 cases x with
 |sl a b d e=>by_cases h:a=i/\b=c/\d+e<=xs.length<;>simp[AV.fz,AV.cells,h]
 |_=>simp[AV.fz,AV.cells]
def k2q{w:World}{I:Nat->Prop}{v:Value}{x:AV}(i c:Nat)(xs:List AV)(h:PVR w I v x):x.fz i c xs=x:=by
 have key:∀(vs:Array Value) (cs:List AV),vs.size=cs.length->(∀(k:Nat) (v:Value) (x:AV),vs[k]?=some v->cs[k]?=some x->x.fz i c xs=x)->cs.map (AV.fz i c xs)=cs:=λvs cs hl ih=>by
  refine xL λk=>?_;rw[zU];cases hx:cs[k]? with
  |none=>rfl
  |some x=>
   have hk:k<vs.size:=by rw[hl];exact(zB.1 hx).1
   rw[wC,ih k vs[k] x (by simp[hk]) hx]
 induction h with
 |agg vs cs hl h ih=>rw[Zm,key vs cs hl ih]
 |tup vs cs hl h ih=>rw[y1n,key vs cs hl ih]
 |fn f vs us ys zs hl h hl' h' ih ih'=>rw[x2f,key vs ys hl ih,key us zs hl' ih']
 |_=>simp[AV.fz]
section
variable {P:Program} [Env P] {nt k:Nat} {Q:Exit->AS->Prop} {W0 w:World} {I0 I:Nat->Prop} {m:Nat->Option Nat} {H:List AObj}
def VR.fz(hw:WS W0 I0 w I m H){i e c:Nat}{xs:List AV}(hi:H[i]?=some (.arr e c xs)){v:Value}{x:AV}(h:VR w I m H.length v x):
  VR w (λb=>I b\/m i=some b) m H.length v (x.fz i c xs):=by
 have z6:Ext w w I (λb=>I b\/m i=some b):=⟨λ_ h=> .inl h,λ_ _=>rfl⟩
 have z8:i<H.length:=(zB.1 hi).1
 -- the other objects set aside
 have z1:∀(id:Nat) (o:AObj),((yF H.length AObj.dead).set i (.arr e c xs))[id]?=some o->(id=i/\o= .arr e c xs)\/o= .dead:=λid o ho=>by
  by_cases hid:id=i
  ·subst hid;rw[zK (by simpa using z8)]at ho;exact .inl ⟨rfl,(Option.some.inj ho).symm⟩
  rw[zE (by omega),vF]at ho;split at ho
  ·exact .inr (Option.some.inj ho).symm
  cases ho
 have za:WS W0 I0 w I m ((yF H.length AObj.dead).set i (.arr e c xs)):=by
  refine⟨hw.below,hw.i0,hw.iw,λid o ho=>?_,λid o b ho hl hm=>?_,λa b oa ob d ha hb la lb ma mb=>?_⟩
  ·rcases z1 id o ho with⟨rfl,rfl⟩|rfl
   ·have:=hw.obj _ _ hi;simpa using this
   trivial
  ·rcases z1 id o ho with⟨rfl,rfl⟩|rfl
   ·exact hw.own _ _ b hi rfl hm
   cases hl
  rcases z1 a oa ha with⟨rfl,rfl⟩|rfl
  ·rcases z1 b ob hb with⟨rfl,rfl⟩|rfl
   ·rfl
   cases lb
  cases la
 have z7:∀b,f0o I m ((yF H.length AObj.dead).set i (.arr e c xs)) b->I b\/m i=some b:=λb hb=>by
  rcases hb with hb|⟨id,o,ho,hl,hm⟩
  ·exact .inl hb
  rcases z1 id o ho with⟨rfl,rfl⟩|rfl
  ·exact .inr hm
  cases hl
 induction h with
 |pure h=>rw[k2q i c xs h];exact .pure (h.mono z6)
 |agg vs cs hl h ih=>rw[Zm];refine .agg vs _ (by simpa using hl) λj v x hv hx=>?_;rw[zU]at hx;obtain⟨y,hy,rfl⟩:=zQ.1 hx;exact ih j v y hv hy
 |tup vs cs hl h ih=>rw[y1n];refine .tup vs _ (by simpa using hl) λj v x hv hx=>?_;rw[zU]at hx;obtain⟨y,hy,rfl⟩:=zQ.1 hx;exact ih j v y hv hy
 |fn f vs us ys zs hl h hl' h' ih ih'=>
  rw[x2f];refine .fn f vs us _ _ (by simpa using hl) (λj v x hv hx=>?_) (by simpa using hl') (λj v x hv hx=>?_)
  ·rw[zU]at hx;obtain⟨y,hy,rfl⟩:=zQ.1 hx;exact ih j v y hv hy
  rw[zU]at hx;obtain⟨y,hy,rfl⟩:=zQ.1 hx;exact ih' j v y hv hy
 |vptr id off b hn hb=>rw[v1i];exact .vptr id off b hn hb
 |ept id c' j off b hn hb=>rw[z2g];exact .ept id c' j off b hn hb
 |yld id b hn hb=>rw[w2u];exact .yld id b hn hb
 |mref id b hn hb=>rw[v13];exact .mref id b hn hb
 |opt p x h1 h2 ih=>rw[w2w];exact .opt p _ ih h2
 |sl id c' lo len cap b t hn hb hs hl hmax=>
  rw[k13];have hv:VR w I m H.length _ _:= .sl id c' lo len cap b t hn hb hs hl hmax;split
  ·rename_i hc;obtain⟨rfl,rfl,zb⟩:=hc;have:=Sa za (by simpa using hv) (y:= .list ((xs.drop lo).take len)) (by simp[Q8,zK,z8,zb]);exact .pure (this.mono ⟨z7,λ_ _=>rfl⟩)
  exact .sl id c' lo len cap b t hn hb hs hl hmax
 |slnone id c' hn hb=>
  rw[k13];split
  ·refine .pure ?_;simp only[List.drop_zero,wB];exact .list _ _ _ 0 _ (λ_ _=>undef) rfl (by simp) (by unfold maxLen;omega) (λx hx=>by simp at hx) (λh0=>by simp at h0) (λi x hx=>by simp at hx)
  exact .slnone id c' hn hb
 |slend id c' lo a hn hlo=>
  rw[k13];split
  ·refine .pure ?_;simp only[wB];exact .list _ _ _ 0 _ (λ_ _=>undef) rfl (by simp) (by unfold maxLen;omega) (λx hx=>by simp at hx) (λh0=>by simp at h0) (λi x hx=>by simp at hx)
  exact .slend id c' lo a hn hlo
def Fm{i c:Nat}{xs:List AV}{t:Nat}{x:AV}:∀ {sl:List (Nat×AV)},look (sl.map λp=>(p.1,p.2.fz i c xs)) t=some x->∃y,look sl t=some y/\x=y.fz i c xs
 |[],hx=>by cases hx
 |(t',y)::r,hx=>by
  simp only[xJ,look]at hx |-;split
  ·rename_i e;subst e;simp at hx;exact⟨y,rfl,hx.symm⟩
  rename_i e;rw[if_neg e]at hx;exact Fm hx
def Ug.fz(hw:WS W0 I0 w I m H){i e c:Nat}{xs:List AV}(hi:H[i]?=some (.arr e c xs)){b? :Option Nat}{o:AObj}(h:Ug w I m H.length b? o):
  Ug w (λb=>I b\/m i=some b) m H.length b? (o.fz i c xs):=by
 have z1:Ext w w I (λb=>I b\/m i=some b):=⟨λ_ h=> .inl h,λ_ _=>rfl⟩
 cases o with
 |vars cs=>obtain⟨b,t,vs,e1,hh,hl,hr⟩:=h;refine⟨b,t,vs,e1,hh,by simpa using hl,λj v x hv hx=>?_⟩;rw[zU]at hx;obtain⟨y,hy,rfl⟩:=zQ.1 hx;exact(hr j v y hv hy).fz hw hi
 |arr e' c' ys=>
  rcases h with h|⟨b,cap,vs,e1,hh,h1,h2,h3,h4,hr⟩
  ·exact .inl h
  exact .inr ⟨b,cap,vs,e1,hh,h1,h2,h3,h4,λi x hx j y hy=>by obtain⟨v,hv,hp⟩:=hr i x hx j y hy;exact⟨v,hv,hp.mono z1⟩⟩
 |it left cur=>obtain⟨r,bm,es,ck,since,seen,c0,e1,hh,hI,hm,h1,h2,h3,h4,h5,hr,z6⟩:=h;exact⟨r,bm,es,ck,since,seen,c0,e1,hh,.inl hI,hm,h1,h2,h3,h4,h5,λi x p a d=>⟨(hr i x p a d).1.mono z1,(hr i x p a d).2.mono z1⟩,λp hp=>by obtain⟨e2,sn,q1,q2,q3,q4,q5⟩:=z6 p hp;exact⟨e2,sn,q1,q2,q3,q4.mono z1,q5.mono z1⟩⟩
 |va e' c' ys=>
  rcases h with⟨h7,h8⟩|⟨b,cap,vs,e1,hh,h1,h2,h3,h4,hr⟩
  ·exact .inl ⟨h7,by rw[h8];rfl⟩
  refine .inr ⟨b,cap,vs,e1,hh,by simpa using h1,h2,h3,λx hx=>?_,λk x hx j y hy=>?_⟩
  ·obtain⟨z,hz,rfl⟩:=zO.1 hx;rw[u0v,yE];exact h4 z hz
  rw[zU]at hx;obtain⟨z,hz,rfl⟩:=zQ.1 hx;rw[u0v,zU]at hy;obtain⟨u,hu,rfl⟩:=zQ.1 hy;obtain⟨v,hv,hp⟩:=hr k z hz j u hu;exact⟨v,hv,hp.fz hw hi⟩
 |dead=>trivial
 |fm kvs=>obtain⟨b,es,ck,e1,hI,hh,hl,hr⟩:=h;exact⟨b,es,ck,e1,.inl hI,hh,hl,λi x p a d=>⟨(hr i x p a d).1.mono z1,(hr i x p a d).2.mono z1⟩⟩
 |tag j t=>exact h
 |lp rdy pend nt sl ps asg body=>obtain⟨b,r,e1,hh,q1,q2,q3,q4,q5,q6,q7⟩:=h;refine⟨b,r,e1,hh,q1,q2,q3,q4,q5,q6,λt x hx=>?_⟩;obtain⟨y,hy,rfl⟩:=Fm hx;obtain⟨v,hv,hr⟩:=q7 t y hy;exact⟨v,hv,hr.fz hw hi⟩
 |mp kvs=>obtain⟨b,es,ck,e1,hh,hl,hr⟩:=h;exact⟨b,es,ck,e1,hh,hl,λi x p a d=>⟨(hr i x p a d).1.mono z1,(hr i x p a d).2.mono z1⟩⟩
 |mv kvs=>obtain⟨b,es,ck,e1,hh,hl,hr⟩:=h;refine⟨b,es,ck,e1,hh,⟨by simpa using hl.size,hl.born,hl.nodup⟩,λi x p a d=>?_⟩;rw[zU]at d;obtain⟨q,hq,rfl⟩:=zQ.1 d;exact⟨(hr i x q a hq).1.mono z1,(hr i x q a hq).2.fz hw hi⟩
def St.freeze{C:Cx P}{a:Act}{w:World}{sl:List (Nat×AV)}{H:List AObj}(hs:St C nt k ⟨sl,H⟩ a w)(i:Nat){e c:Nat}{xs:List AV}(hi:H[i]?=some (.arr e c xs)):
  St C nt k ⟨sl.map λp=>(p.1,p.2.fz i c xs),(H.set i .dead).map (AObj.fz i c xs)⟩ a w:=by
 obtain⟨I,m,hw,z7,hk,hf⟩:=hs;have z8:Ext w w I (λb=>I b\/m i=some b):=⟨λ_ h=> .inl h,λ_ _=>rfl⟩
 have hlen:((H.set i .dead).map (AObj.fz i c xs)).length=H.length:=by simp
 have z6:∀(id:Nat) (o:AObj),((H.set i .dead).map (AObj.fz i c xs))[id]?=some o->o.live=true->id≠i/\∃o',H[id]?=some o'/\o=o'.fz i c xs/\o'.live=true:=λid o ho hl=>by
  rw[zU]at ho;obtain⟨o',z1,rfl⟩:=zQ.1 ho;by_cases hid:id=i
  ·subst hid;rw[zK (zB.1 hi).1]at z1;cases z1;simp[AObj.fz,AObj.live]at hl
  rw[zE (by omega)]at z1;exact⟨hid,o',z1,rfl,by cases o'<;>exact hl⟩
 refine⟨λb=>I b\/m i=some b,m,⟨hw.below,λb hb=> .inl (hw.i0 b hb),λb hb=>?_,λid o ho=>?_,λid o b ho hl hm=>?_,λa b oa ob d ha hb la lb ma mb=>?_⟩,⟨z7.1,z7.2.1,λt x hx=>?_⟩,by rw[hlen];exact hk,hf.trans hk ⟨z8,λ_ _=>rfl,λ_ _ h=>h⟩⟩
 ·rcases hb with hb|hb
  ·exact hw.iw b hb
  have:=hw.own i _ b hi rfl hb;exact⟨this.2.2,.inr this.1⟩
 ·rw[hlen];by_cases hl:o.live=true
  ·obtain⟨_,o',z1,rfl,_⟩:=z6 id o ho hl;exact(hw.obj id o' z1).fz hw hi
  rw[zU]at ho;obtain⟨o',z1,rfl⟩:=zQ.1 ho;by_cases hid:id=i
  ·subst hid;rw[zK (zB.1 hi).1]at z1;cases z1;trivial
  rw[zE (by omega)]at z1;cases o' with
  |vars cs=>exact absurd rfl hl
  |arr e c xs=>exact absurd rfl hl
  |dead=>trivial
  |tag j t=>exact hw.obj id _ z1
  |lp rdy pend nt sl ps asg body=>exact absurd rfl hl
  |mp kvs=>exact absurd rfl hl
  |va e c xs=>exact absurd rfl hl
  |it left cur=>exact absurd rfl hl
  |fm kvs=>exact(hw.obj id _ z1).fz hw hi
  |mv kvs=>exact absurd rfl hl
 ·obtain⟨za,o',z1,rfl,hl'⟩:=z6 id o ho hl;have h1:=hw.own id o' b z1 hl' hm;refine⟨h1.1,λhc=>?_,h1.2.2⟩;rcases hc with hc|hc
  ·exact h1.2.1 hc
  exact za (hw.inj id i o' _ b z1 hi hl' rfl hm hc)
 ·obtain⟨_,zb,zc,_,zd⟩:=z6 a oa ha la;obtain⟨_,ze,zf,_,zg⟩:=z6 b ob hb lb;exact hw.inj a b zb ze d zc zf zd zg ma mb
 rw[hlen];have:=Fm hx;obtain⟨y,hy,rfl⟩:=this;obtain⟨v,hv,hr⟩:=z7.2.2 t y hy;exact⟨v,hv,hr.fz hw hi⟩
def g0q{cd:Code}{sl:List (Nat×AV)}{H:List AObj}(i:Nat){e c:Nat}{xs:List AV}(hi:H[i]?=some (.arr e c xs))(h:AWP P nt k cd Q ⟨sl.map λp=>(p.1,p.2.fz i c xs),(H.set i .dead).map (AObj.fz i c xs)⟩):AWP P nt k cd Q ⟨sl,H⟩:=
 λC a w hs=>h C a w (hs.freeze i hi)
def Ek{wr:Bool}{ops:Array Oper}{o:Oper}{R:AS->Prop}{sl:List (Nat×AV)}{H:List AObj}(i:Nat){e c:Nat}{xs:List AV}(hi:H[i]?=some (.arr e c xs))(h:Q7 P nt k wr ops o ⟨sl.map λp=>(p.1,p.2.fz i c xs),(H.set i .dead).map (AObj.fz i c xs)⟩ R):Q7 P nt k wr ops o ⟨sl,H⟩ R:=
 λC a w K Q hs=>h C a w K Q (hs.freeze i hi)
end
attribute [simp] v13 w2u Zm y1n x2f v27 j21 g25 x1b x2c y2t k2b k2p y2y g26 f2x v1i z2g k13 w2w AObj.fz
end
section
open Go.RowKit
section
variable {P:Program} [Env P] {T:TT} {nt k:Nat} {S:AS} {ops:Array Oper} {o:Oper} {R:AS->Prop}
def Si (hT:TOk P T) {wr:Bool} (hw:Qn ops S o=some true) {t u e:TypeId} {x:Operand} (ho:o.op= .binOp .eql t x (.const (.slice none 0 0)) u) {it:TI} (ht:look T t=some it) (hit:it.desc= .slice e)
  {xs:List AV} (hx:rho S.sl x=some (.list xs)) (hd:Wx nt o=true) (hR:∀b,(xs≠[]->b=false)->R (S.putD o.dst (.bool b))):Q7 P nt k wr ops o S R:=λC a w K Q hs hK=>by
 unfold OpW;rw[if_pos (hs.wanted hw)];obtain⟨I,m,z8,z6,hk,hE⟩:=hs;obtain⟨ad,cap,c,uu,hv,h1,h2,h3,h4,h5⟩:=(Ql z6 hx).list_inv.list_inv;have z7:=hT.und ht;rw[hit]at z7;have z1:(execOp a.eval o).run P w= .ok (.value (.bool ad.isNone)) w:=by have:=Go.Lib.run_eql_slice_nil (P:=P) w t e ad xs.length cap 0 0 z7;have hc:a.eval (.const (.slice none 0 0))= .slice none 0 0:=rfl;simp[execOp,ho,hv,eqGuard,hc,this]
 unfold wpA;rw[z1];refine hK _ _ w (hR ad.isNone λza=>?_) (St.value z6 hk hE z8 (Fut.refl _ _ _ _) (zS _) (Qi hd) (.pure (.bool _))) (λ_=>Tu.refl w);obtain⟨zb,rfl,_⟩:=h4 (List.length_pos_iff.2 za);rfl
end
end
section
open Go.RowKit
inductive Plan where
 |done
 |val (i:Nat) (p:Plan)
 |one (i:Nat) (p:Plan)
 |two (i:Nat) (p:Plan) (j:Nat) (q:Plan)
def Plan.size:Plan->Nat
 | .done=>0
 | .val _ p=>p.size+1
 | .one _ p=>p.size+1
 | .two _ p _ _=>p.size+1
def Lr(ops:Array Oper)(cl:List (List Nat))(Wr:List Nat):Plan->Array Bool->Bool
 | .done,l=>(Region.ready .any ops l).isEmpty
 | .val i p,l=>(match ops[i]? with
   |none=>false
   |some o=>isVal o.op && y08 ops cl Wr l i && (Region.ready .any ops l).contains i) && Lr ops cl Wr p (l.setIfInBounds i true)
 | .one i p,l=>(ops[i]?).isSome && Region.ready .any ops l==[i] && Lr ops cl Wr p (l.setIfInBounds i true)
 | .two i p j q,l=>(ops[i]?).isSome && (ops[j]?).isSome && Region.ready .any ops l==[i,j] && p.size==q.size && Lr ops cl Wr p (l.setIfInBounds i true) && Lr ops cl Wr q (l.setIfInBounds j true)
def stepT(P:Program)[Env P](T:TT)(nt k:Nat)(ops:Array Oper)(W:Nat->Bool)(i:Nat)(R:AS->Prop)(S:AS):Prop:=match ops[i]? with
 |none=>False
 |some o=>if Sx o.op then(match L7 T ops S o with
   |some S'=>(Jt o.op=true->W i=true)/\R S'
   |none=>False)
  else Q7 P nt k (W i) ops o S R
def Tr(P:Program)[Env P](T:TT)(nt k:Nat)(ops:Array Oper)(W:Nat->Bool)(i:Nat)(R:AS->Prop)(S:AS):Prop:=match ops[i]? with
 |none=>False
 |some o=>if Sx o.op then(match L7 T ops S o with
   |some S'=>(Jt o.op=true->W i=true)/\R S'
   |none=>Q7 P nt k (W i) ops o S R)
  else Q7 P nt k (W i) ops o S R
def B2(P:Program)[Env P](T:TT)(nt k:Nat)(ops:Array Oper)(W:Nat->Bool)(Q:AS->Prop):Plan->AS->Prop
 | .done,S=>Q S
 | .val i p,S=>stepT P T nt k ops W i (B2 P T nt k ops W Q p) S
 | .one i p,S=>Tr P T nt k ops W i (B2 P T nt k ops W Q p) S
 | .two i p j q,S=>Tr P T nt k ops W i (B2 P T nt k ops W Q p) S/\Tr P T nt k ops W j (B2 P T nt k ops W Q q) S
section
variable {P:Program} [Env P] {T:TT} {nt k:Nat} {S:AS} {ops:Array Oper} {o:Oper} {R:AS->Prop} {Wr:List Nat}
def Rt (hT:TOk P T) {C:Cx P} (hd:Us nt ops.toList=true) {i:Nat} {R':AS->Prop} {N:Act->World->Prop} {a:Act} {w:World} (h:Tr P T nt k ops Wr.contains i R' S) (hs:St C nt k S a w)
  (hN:∀S' a' w',R' S'->St C nt k S' a' w'->N a' w'):Fs P ops (q2t C nt k R) i (λa' w'=>(Wr.contains i=false->Tu w w')/\N a' w') a w:=by
 unfold Tr at h;cases ho:ops[i]? with
 |none=>rw[ho]at h;exact h.elim
 |some o=>
  rw[ho]at h;simp only at h;have z1:Wx nt o=true:=zX.1 hd o (by simpa using uv ho);have key:Q7 P nt k (Wr.contains i) ops o S R':=by
   split at h
   ·split at h
    ·rename_i S' z6;exact Xa hT z6 z1 h.1 (by assumption) h.2
    exact h
   exact h
  have:=key C a w (λa' w'=>(Wr.contains i=false->Tu w w')/\N a' w') (q2t C nt k R) hs (λS' a' w' hR z7 hh=>⟨hh,hN S' a' w' hR z7⟩);unfold Fs;rw[ho];exact this
def Pe(hT:TOk P T){C:Cx P}(hd:Us nt ops.toList=true)(z8:Region.noSelect ops=true):∀(p:Plan) (listed:Array Bool) (S:AS) (a:Act) (w:World),Ps ops listed->Lr ops (Im ops.toList []) Wr p listed=true->B2 P T nt k ops Wr.contains R p S->St C nt k S a w->
  X0 P ops Wr (q2t C nt k R) p.size listed a w
 | .done,listed,S,a,w,_,hp,h,hs=>⟨by simpa[Lr]using hp,S,h,hs⟩
 | .val i p,listed,S,a,w,z6,hp,h,hs=>by
  unfold Lr at hp;unfold B2 stepT at h;rw[z_]at hp;obtain⟨zb,za⟩:=hp;cases ho:ops[i]? with
  |none=>rw[ho]at h;exact h.elim
  |some o=>
   rw[ho]at h zb;simp only at h zb;have zc:Wx nt o=true:=zX.1 hd o (by simpa using uv ho);simp only[z_]at zb;obtain⟨⟨hv,hf⟩,hr⟩:=zb;have zd:Sx o.op=true:=by cases hop:o.op<;>rw[hop]at hv<;>first|rfl|exact hv|(simp[isVal]at hv)
   rw[if_pos zd]at h;have z1:i∈Region.ready .any ops listed:=by simpa using hr
   split at h
   ·rename_i S' ze;obtain⟨v,hy,z7⟩:=hs.yields hT zc hv ze;exact Gl ho (Region.noSelect_spec z8) (λc a w hq=>hq) (λx y=>Uq o.op=true->Tu x y) (λw _=>Tu.refl w) (λx y z h1 h2 hr=>(h1 hr).trans (h2 hr)) p.size listed a w
     (λj oj hj zf zg zh=>v0p ho hf j oj hj zf zg zh) z6 z1 hy (Pe hT hd z8 p _ S' _ w (z6.set z1) za h.2 z7)
   exact h.elim
 | .one i p,listed,S,a,w,z6,hp,h,hs=>by
  unfold Lr at hp;simp only[z_,beq_iff_eq]at hp;obtain⟨⟨_,z1⟩,za⟩:=hp;have zi:i∈Region.ready .any ops listed:=by rw[z1];simp
  refine⟨λh0=>(by rw[z1]at h0;cases h0),λj hj=>?_⟩;rw[z1]at hj;obtain rfl:j=i:=by simpa using hj
  exact Rt hT hd h hs λS' a' w' hR z7=>Pe hT hd z8 p _ S' a' w' (z6.set zi) za hR z7
 | .two i p j q,listed,S,a,w,z6,hp,h,hs=>by
  unfold Lr at hp;simp only[z_,beq_iff_eq]at hp;obtain⟨⟨⟨⟨_,z1⟩,zj⟩,za⟩,zk⟩:=hp;have zl:i∈Region.ready .any ops listed:=by rw[z1];simp
  have zm:j∈Region.ready .any ops listed:=by rw[z1];simp
  refine⟨λh0=>(by rw[z1]at h0;cases h0),λm hm=>?_⟩;rw[z1]at hm;rcases(by simpa using hm:m=i\/m=j)with rfl|rfl
  ·exact Rt hT hd h.1 hs λS' a' w' hR z7=>Pe hT hd z8 p _ S' a' w' (z6.set zl) za hR z7
  refine Rt hT hd h.2 hs λS' a' w' hR z7=>?_;have:=Pe hT hd z8 q _ S' a' w' (z6.set zm) zk hR z7;rw[<-zj]at this;exact this
def z1x (hT:TOk P T) (hm:P.follows .mixedOrders=true) {Q:Exit->AS->Prop} {id:Nat} {l:List Oper} (Wr:List Nat) (p:Plan) (hd:Us nt l=true)
  (hp:(Region.noSelect l.toArray && p.size==l.length && Lr l.toArray (Im l []) Wr p (v_ l.length false))=true)
  (h:B2 P T nt k l.toArray Wr.contains (Q .normal) p S):AWP P nt k (.region id l.toArray true) Q S:=λC a w hs=>by
 simp only[z_,beq_iff_eq]at hp;obtain⟨⟨h1,h2⟩,h3⟩:=hp;refine Vn (wpIn_region_any hm (Fi (Wr:=Wr) _ _ _ _ ?_));have z8:St C nt k S a { w with drawn:=w.drawn+1 }:=by
  obtain⟨I,m,hw,z1,hk,hE⟩:=hs;have hb:Below w.heap.size w { w with drawn:=w.drawn+1 }:=⟨rfl,rfl,rfl,zS _,λ_ _=>rfl⟩
  obtain⟨g1,g2⟩:=hw.step hb (λ_ h=>h) (λb z6=>⟨(hw.iw b z6).1,.inl z6⟩);exact⟨I,m,g1,⟨z1.1,z1.2.1,λt x hx=>by obtain⟨v,hv,hr⟩:=z1.2.2 t x hx;exact⟨v,hv,hr.mono g2 (zS _)⟩⟩,hk,hE.trans hk g2⟩
 have:=Pe hT (C:=C) (nt:=nt) (k:=k) (R:=Q .normal) (by simpa using hd) h1 p (v_ l.length false) S a _ (λj o ho hj=>by
  have z7:=(yT.1 ho).1;simp at z7;simp[z7]at hj) (by simpa using h3) h z8
 rw[h2]at this;simpa using this
end
attribute [simp] B2 stepT Tr
end
section
open Go.RowKit
section
variable {P:Program} [Env P] {T:TT} {nt k:Nat} {S:AS} {ops:Array Oper} {o:Oper} {R:AS->Prop}
end
end
section
open Go.RowKit
section
variable {P:Program} [Env P] {T:TT} {nt k:Nat} {S:AS} {ops:Array Oper} {o:Oper} {R:AS->Prop}
end
end
section
open Go.RowKit
section
variable {P:Program} [Env P] {T:TT} {nt k:Nat} {S:AS} {ops:Array Oper} {o:Oper} {R:AS->Prop} {Q:Exit->AS->Prop}
def u2e{w:World}{t e:TypeId}{ty:TypeId}(z1:P.underlying t=some (.slice e))(a:Option Addr)(n c:Nat):(Builtin.cap_ #[t] ty #[.slice a n c]).run P w= .ok (goInt c) w:=by simp[Builtin.cap_,run_underlying z1]
end
end
section
open Go.RowKit
section
variable {P:Program} [Env P] {T:TT} {nt k:Nat} {S:AS} {ops:Array Oper} {o:Oper} {R:AS->Prop} {Q:Exit->AS->Prop}
end
end
section
open Go.RowKit
section
variable {P:Program} [Env P] {T:TT} {nt k:Nat} {S:AS} {ops:Array Oper} {o:Oper} {R:AS->Prop} {Q:Exit->AS->Prop}
end
end
section
open Go.RowKit
section
variable {P:Program} [Env P] {T:TT} {nt k:Nat} {S:AS} {ops:Array Oper} {o:Oper} {R:AS->Prop} {Q:Exit->AS->Prop}
end
end
section
open Go.RowKit
section
variable {P:Program} [Env P] {T:TT} {nt k:Nat} {S:AS} {ops:Array Oper} {o:Oper} {R:AS->Prop}
@[simp] theorem valA_slice3 (T:TT) (S:AS) (g:Bool) (t:TypeId) (x:Operand) (lo hi:Option Operand) (mx:Operand):Hh T S g (.slice t x lo hi (some mx))=none:=rfl
end
end
section
open Go.RowKit
def AV.fv(i:Nat)(xs:List AV):AV->AV
 | .agg cs=> .agg (cs.attach.map λ⟨x,_⟩=>x.fv i xs)
 | .tup cs=> .tup (cs.attach.map λ⟨x,_⟩=>x.fv i xs)
 | .fn f ys zs=> .fn f (ys.attach.map λ⟨x,_⟩=>x.fv i xs) (zs.attach.map λ⟨x,_⟩=>x.fv i xs)
 | .vptr id off=>if id=i then .iptr (xs.drop off)else .vptr id off
 | .opt p x=> .opt p (x.fv i xs)
 |x=>x
section
variable (i:Nat) (xs:List AV)
def q1v(cs:List AV):(AV.agg cs).fv i xs= .agg (cs.map (AV.fv i xs)):=by rw[AV.fv];simp
def y1i(cs:List AV):(AV.tup cs).fv i xs= .tup (cs.map (AV.fv i xs)):=by rw[AV.fv];simp
def y26(f:Fn)(ys zs:List AV):(AV.fn f ys zs).fv i xs= .fn f (ys.map (AV.fv i xs)) (zs.map (AV.fv i xs)):=by rw[AV.fv];simp
def y2v(b:Bool):(AV.bool b).fv i xs= .bool b:=by simp[AV.fv]
def f2d(k:IntKind)(n:Int):(AV.int k n).fv i xs= .int k n:=by simp[AV.fv]
def j2k(x:List UInt8):(AV.str x).fv i xs= .str x:=by simp[AV.fv]
def z2x(x:List AV):(AV.list x).fv i xs= .list x:=by simp[AV.fv]
def y22(x:List AV):(AV.iptr x).fv i xs= .iptr x:=by simp[AV.fv]
def y20:(AV.nils).fv i xs= .nils:=by simp[AV.fv]
def x2s:(AV.nilp).fv i xs= .nilp:=by simp[AV.fv]
def v2u:(AV.nilf).fv i xs= .nilf:=by simp[AV.fv]
def x2t:(AV.nili).fv i xs= .nili:=by simp[AV.fv]
def j2p:(AV.ifc).fv i xs= .ifc:=by simp[AV.fv]
def f2p:(AV.top).fv i xs= .top:=by simp[AV.fv]
def g1r(a b d e:Nat):(AV.sl a b d e).fv i xs= .sl a b d e:=by simp[AV.fv]
def w2v(a b d e:Nat):(AV.ept a b d e).fv i xs= .ept a b d e:=by simp[AV.fv]
def d0k(a:Nat):(AV.mref a).fv i xs= .mref a:=by simp[AV.fv]
def q28(a:Nat):(AV.yld a).fv i xs= .yld a:=by simp[AV.fv]
def q1l(id off:Nat):(AV.vptr id off).fv i xs=if id=i then .iptr (xs.drop off)else .vptr id off:=by rw[AV.fv]
def w23(p:Bool)(x:AV):(AV.opt p x).fv i xs= .opt p (x.fv i xs):=by simp[AV.fv]
end
def AObj.fv(i:Nat)(xs:List AV):AObj->AObj
 | .vars cs=> .vars (cs.map (AV.fv i xs))
 | .arr e c' ys=> .arr e c' ys
 | .dead=> .dead
 | .tag id t=> .tag id t
 | .lp rdy pend nt sl ps asg body=> .lp rdy pend nt (sl.map λp=>(p.1,p.2.fv i xs)) ps asg body
 | .mp kvs=> .mp kvs
 | .va e c' ys=> .va e c' (ys.map (AV.fv i xs))
 | .it left cur=> .it left cur
 | .fm kvs=> .fm kvs
 | .mv kvs=> .mv (kvs.map λp=>(p.1,p.2.fv i xs))
def x0l(i:Nat)(xs:List AV)(x:AV):(x.fv i xs).cells=x.cells.map (AV.fv i xs):=by
 cases x with
 |vptr a b=>by_cases h:a=i<;>simp[AV.fv,AV.cells,h]
 |_=>simp[AV.fv,AV.cells]
def x24{w:World}{I:Nat->Prop}{v:Value}{x:AV}(i:Nat)(xs:List AV)(h:PVR w I v x):x.fv i xs=x:=by
 have key:∀(vs:Array Value) (cs:List AV),vs.size=cs.length->(∀(k:Nat) (v:Value) (x:AV),vs[k]?=some v->cs[k]?=some x->x.fv i xs=x)->cs.map (AV.fv i xs)=cs:=λvs cs hl ih=>by
  refine xL λk=>?_;rw[zU];cases hx:cs[k]? with
  |none=>rfl
  |some x=>
   have hk:k<vs.size:=by rw[hl];exact(zB.1 hx).1
   rw[wC,ih k vs[k] x (by simp[hk]) hx]
 induction h with
 |agg vs cs hl h ih=>rw[q1v,key vs cs hl ih]
 |tup vs cs hl h ih=>rw[y1i,key vs cs hl ih]
 |fn f vs us ys zs hl h hl' h' ih ih'=>rw[y26,key vs ys hl ih,key us zs hl' ih']
 |_=>simp[AV.fv]
def Bu{H:List AObj}{xs ys:List AV}(h:Qy (xs.map (Q8 []))=some ys):Qy (xs.map (Q8 H))=some ys:=by
 induction xs generalizing ys with
 |nil=>exact h
 |cons x xs ih=>
  simp only[xJ]at h |-;cases hx:Q8 [] x with
  |none=>rw[hx]at h;cases h
  |some y=>
   rw[hx]at h;have:Q8 H x=some y:=by cases x<;>first|exact hx|(simp[Q8]at hx)
   rw[this];simp only[Qy]at h |-;obtain⟨zs,hz,rfl⟩:=zQ.1 h;rw[ih hz];rfl
section
variable {P:Program} [Env P] {nt k:Nat} {Q:Exit->AS->Prop} {W0 w:World} {I0 I:Nat->Prop} {m:Nat->Option Nat} {H:List AObj}
def VR.fv(hw:WS W0 I0 w I m H){i:Nat}{xs ys:List AV}(za:Qy (xs.map (Q8 []))=some ys)(hi:H[i]?=some (.vars xs)){v:Value}{x:AV}(h:VR w I m H.length v x):
  VR w (λb=>I b\/m i=some b) m H.length v (x.fv i ys):=by
 have z6:Ext w w I (λb=>I b\/m i=some b):=⟨λ_ h=> .inl h,λ_ _=>rfl⟩
 have z8:i<H.length:=(zB.1 hi).1
 -- the other objects set aside
 have z1:∀(id:Nat) (o:AObj),((yF H.length AObj.dead).set i (.vars xs))[id]?=some o->(id=i/\o= .vars xs)\/o= .dead:=λid o ho=>by
  by_cases hid:id=i
  ·subst hid;rw[zK (by simpa using z8)]at ho;exact .inl ⟨rfl,(Option.some.inj ho).symm⟩
  rw[zE (by omega),vF]at ho;split at ho
  ·exact .inr (Option.some.inj ho).symm
  cases ho
 have zb:WS W0 I0 w I m ((yF H.length AObj.dead).set i (.vars xs)):=by
  refine⟨hw.below,hw.i0,hw.iw,λid o ho=>?_,λid o b ho hl hm=>?_,λa b oa ob d ha hb la lb ma mb=>?_⟩
  ·rcases z1 id o ho with⟨rfl,rfl⟩|rfl
   ·have:=hw.obj _ _ hi;simpa using this
   trivial
  ·rcases z1 id o ho with⟨rfl,rfl⟩|rfl
   ·exact hw.own _ _ b hi rfl hm
   cases hl
  rcases z1 a oa ha with⟨rfl,rfl⟩|rfl
  ·rcases z1 b ob hb with⟨rfl,rfl⟩|rfl
   ·rfl
   cases lb
  cases la
 have z7:∀b,f0o I m ((yF H.length AObj.dead).set i (.vars xs)) b->I b\/m i=some b:=λb hb=>by
  rcases hb with hb|⟨id,o,ho,hl,hm⟩
  ·exact .inl hb
  rcases z1 id o ho with⟨rfl,rfl⟩|rfl
  ·exact .inr hm
  cases hl
 induction h with
 |pure h=>rw[x24 i ys h];exact .pure (h.mono z6)
 |agg vs cs hl h ih=>rw[q1v];refine .agg vs _ (by simpa using hl) λj v x hv hx=>?_;rw[zU]at hx;obtain⟨y,hy,rfl⟩:=zQ.1 hx;exact ih j v y hv hy
 |tup vs cs hl h ih=>rw[y1i];refine .tup vs _ (by simpa using hl) λj v x hv hx=>?_;rw[zU]at hx;obtain⟨y,hy,rfl⟩:=zQ.1 hx;exact ih j v y hv hy
 |fn f vs us ps qs hl h hl' h' ih ih'=>
  rw[y26];refine .fn f vs us _ _ (by simpa using hl) (λj v x hv hx=>?_) (by simpa using hl') (λj v x hv hx=>?_)
  ·rw[zU]at hx;obtain⟨y,hy,rfl⟩:=zQ.1 hx;exact ih j v y hv hy
  rw[zU]at hx;obtain⟨y,hy,rfl⟩:=zQ.1 hx;exact ih' j v y hv hy
 |vptr id off b hn hb=>
  rw[q1l];have hv:VR w I m H.length _ _:= .vptr id off b hn hb;split
  ·rename_i hc;subst hc;have:=Ui zb (by simpa using hv) (y:= .iptr (ys.drop off)) (by
    simp only[W5,zK (show id<(yF H.length AObj.dead).length by simpa using z8)];rw[Bu za];rfl)
   exact .pure (this.mono ⟨z7,λ_ _=>rfl⟩)
  exact .vptr id off b hn hb
 |ept id c' j off b hn hb=>rw[w2v];exact .ept id c' j off b hn hb
 |yld id b hn hb=>rw[q28];exact .yld id b hn hb
 |mref id b hn hb=>rw[d0k];exact .mref id b hn hb
 |opt p x h1 h2 ih=>rw[w23];exact .opt p _ ih h2
 |sl id c' lo len cap b t hn hb hs hl hmax=>rw[g1r];exact .sl id c' lo len cap b t hn hb hs hl hmax
 |slnone id c' hn hb=>rw[g1r];exact .slnone id c' hn hb
 |slend id c' lo a hn hlo=>rw[g1r];exact .slend id c' lo a hn hlo
def z0f{i:Nat}{ys:List AV}{t:Nat}{x:AV}:∀ {sl:List (Nat×AV)},look (sl.map λp=>(p.1,p.2.fv i ys)) t=some x->∃y,look sl t=some y/\x=y.fv i ys
 |[],hx=>by cases hx
 |(t',y)::r,hx=>by
  simp only[xJ,look]at hx |-;split
  ·rename_i e;subst e;simp at hx;exact⟨y,rfl,hx.symm⟩
  rename_i e;rw[if_neg e]at hx;exact z0f hx
def Ug.fv(hw:WS W0 I0 w I m H){i:Nat}{xs ys:List AV}(z6:Qy (xs.map (Q8 []))=some ys)(hi:H[i]?=some (.vars xs)){b? :Option Nat}{o:AObj}(h:Ug w I m H.length b? o):
  Ug w (λb=>I b\/m i=some b) m H.length b? (o.fv i ys):=by
 have z1:Ext w w I (λb=>I b\/m i=some b):=⟨λ_ h=> .inl h,λ_ _=>rfl⟩
 cases o with
 |vars cs=>obtain⟨b,t,vs,e1,hh,hl,hr⟩:=h;refine⟨b,t,vs,e1,hh,by simpa using hl,λj v x hv hx=>?_⟩;rw[zU]at hx;obtain⟨y,hy,rfl⟩:=zQ.1 hx;exact(hr j v y hv hy).fv hw z6 hi
 |arr e' c' zs=>
  rcases h with h|⟨b,cap,vs,e1,hh,h1,h2,h3,h4,hr⟩
  ·exact .inl h
  exact .inr ⟨b,cap,vs,e1,hh,h1,h2,h3,h4,λi x hx j y hy=>by obtain⟨v,hv,hp⟩:=hr i x hx j y hy;exact⟨v,hv,hp.mono z1⟩⟩
 |it left cur=>obtain⟨r,bm,es,ck,since,seen,c0,e1,hh,hI,hm,h1,h2,h3,h4,h5,hr,z7⟩:=h;exact⟨r,bm,es,ck,since,seen,c0,e1,hh,.inl hI,hm,h1,h2,h3,h4,h5,λi x p a d=>⟨(hr i x p a d).1.mono z1,(hr i x p a d).2.mono z1⟩,λp hp=>by obtain⟨e2,sn,q1,q2,q3,q4,q5⟩:=z7 p hp;exact⟨e2,sn,q1,q2,q3,q4.mono z1,q5.mono z1⟩⟩
 |va e' c' zs=>
  rcases h with⟨h7,h8⟩|⟨b,cap,vs,e1,hh,h1,h2,h3,h4,hr⟩
  ·exact .inl ⟨h7,by rw[h8];rfl⟩
  refine .inr ⟨b,cap,vs,e1,hh,by simpa using h1,h2,h3,λx hx=>?_,λk x hx j y hy=>?_⟩
  ·obtain⟨z,hz,rfl⟩:=zO.1 hx;rw[x0l,yE];exact h4 z hz
  rw[zU]at hx;obtain⟨z,hz,rfl⟩:=zQ.1 hx;rw[x0l,zU]at hy;obtain⟨u,hu,rfl⟩:=zQ.1 hy;obtain⟨v,hv,hp⟩:=hr k z hz j u hu;exact⟨v,hv,hp.fv hw z6 hi⟩
 |dead=>trivial
 |fm kvs=>obtain⟨b,es,ck,e1,hI,hh,hl,hr⟩:=h;exact⟨b,es,ck,e1,.inl hI,hh,hl,λi x p a d=>⟨(hr i x p a d).1.mono z1,(hr i x p a d).2.mono z1⟩⟩
 |tag j t=>exact h
 |lp rdy pend nt sl ps asg body=>obtain⟨b,r,e1,hh,q1,q2,q3,q4,q5,q6,q7⟩:=h;refine⟨b,r,e1,hh,q1,q2,q3,q4,q5,q6,λt x hx=>?_⟩;obtain⟨y,hy,rfl⟩:=z0f hx;obtain⟨v,hv,hr⟩:=q7 t y hy;exact⟨v,hv,hr.fv hw z6 hi⟩
 |mp kvs=>obtain⟨b,es,ck,e1,hh,hl,hr⟩:=h;exact⟨b,es,ck,e1,hh,hl,λi x p a d=>⟨(hr i x p a d).1.mono z1,(hr i x p a d).2.mono z1⟩⟩
 |mv kvs=>obtain⟨b,es,ck,e1,hh,hl,hr⟩:=h;refine⟨b,es,ck,e1,hh,⟨by simpa using hl.size,hl.born,hl.nodup⟩,λi x p a d=>?_⟩;rw[zU]at d;obtain⟨q,hq,rfl⟩:=zQ.1 d;exact⟨(hr i x q a hq).1.mono z1,(hr i x q a hq).2.fv hw z6 hi⟩
def St.freezeV{C:Cx P}{a:Act}{w:World}{sl:List (Nat×AV)}{H:List AObj}(hs:St C nt k ⟨sl,H⟩ a w)(i:Nat){xs ys:List AV}(z7:Qy (xs.map (Q8 []))=some ys)(hi:H[i]?=some (.vars xs)):
  St C nt k ⟨sl.map λp=>(p.1,p.2.fv i ys),(H.set i .dead).map (AObj.fv i ys)⟩ a w:=by
 obtain⟨I,m,hw,z8,hk,hf⟩:=hs;have za:Ext w w I (λb=>I b\/m i=some b):=⟨λ_ h=> .inl h,λ_ _=>rfl⟩
 have hlen:((H.set i .dead).map (AObj.fv i ys)).length=H.length:=by simp
 have z6:∀(id:Nat) (o:AObj),((H.set i .dead).map (AObj.fv i ys))[id]?=some o->o.live=true->id≠i/\∃o',H[id]?=some o'/\o=o'.fv i ys/\o'.live=true:=λid o ho hl=>by
  rw[zU]at ho;obtain⟨o',z1,rfl⟩:=zQ.1 ho;by_cases hid:id=i
  ·subst hid;rw[zK (zB.1 hi).1]at z1;cases z1;simp[AObj.fv,AObj.live]at hl
  rw[zE (by omega)]at z1;exact⟨hid,o',z1,rfl,by cases o'<;>exact hl⟩
 refine⟨λb=>I b\/m i=some b,m,⟨hw.below,λb hb=> .inl (hw.i0 b hb),λb hb=>?_,λid o ho=>?_,λid o b ho hl hm=>?_,λa b oa ob d ha hb la lb ma mb=>?_⟩,⟨z8.1,z8.2.1,λt x hx=>?_⟩,by rw[hlen];exact hk,hf.trans hk ⟨za,λ_ _=>rfl,λ_ _ h=>h⟩⟩
 ·rcases hb with hb|hb
  ·exact hw.iw b hb
  have:=hw.own i _ b hi rfl hb;exact⟨this.2.2,.inr this.1⟩
 ·rw[hlen];by_cases hl:o.live=true
  ·obtain⟨_,o',z1,rfl,_⟩:=z6 id o ho hl;exact(hw.obj id o' z1).fv hw z7 hi
  rw[zU]at ho;obtain⟨o',z1,rfl⟩:=zQ.1 ho;by_cases hid:id=i
  ·subst hid;rw[zK (zB.1 hi).1]at z1;cases z1;trivial
  rw[zE (by omega)]at z1;cases o' with
  |vars cs=>exact absurd rfl hl
  |arr e c xs=>exact absurd rfl hl
  |dead=>trivial
  |tag j t=>exact hw.obj id _ z1
  |lp rdy pend nt sl ps asg body=>exact absurd rfl hl
  |mp kvs=>exact absurd rfl hl
  |va e c xs=>exact absurd rfl hl
  |it left cur=>exact absurd rfl hl
  |fm kvs=>exact(hw.obj id _ z1).fv hw z7 hi
  |mv kvs=>exact absurd rfl hl
 ·obtain⟨zb,o',z1,rfl,hl'⟩:=z6 id o ho hl;have h1:=hw.own id o' b z1 hl' hm;refine⟨h1.1,λhc=>?_,h1.2.2⟩;rcases hc with hc|hc
  ·exact h1.2.1 hc
  exact zb (hw.inj id i o' _ b z1 hi hl' rfl hm hc)
 ·obtain⟨_,zc,zd,_,ze⟩:=z6 a oa ha la;obtain⟨_,zf,zg,_,zh⟩:=z6 b ob hb lb;exact hw.inj a b zc zf d zd zg ze zh ma mb
 rw[hlen];have:=z0f hx;obtain⟨y,hy,rfl⟩:=this;obtain⟨v,hv,hr⟩:=z8.2.2 t y hy;exact⟨v,hv,hr.fv hw z7 hi⟩
def I9{wr:Bool}{ops:Array Oper}{o:Oper}{R:AS->Prop}{sl:List (Nat×AV)}{H:List AObj}(i:Nat){xs ys:List AV}(z1:Qy (xs.map (Q8 []))=some ys)(hi:H[i]?=some (.vars xs))(h:Q7 P nt k wr ops o ⟨sl.map λp=>(p.1,p.2.fv i ys),(H.set i .dead).map (AObj.fv i ys)⟩ R):Q7 P nt k wr ops o ⟨sl,H⟩ R:=
 λC a w K Q hs=>h C a w K Q (hs.freezeV i z1 hi)
end
attribute [simp] d0k q28 q1v y1i y26 y2v f2d j2k z2x y22 y20 x2s v2u x2t j2p f2p q1l w2v g1r w23 AObj.fv
end
section
open Go.RowKit Go.ChangeShapes Go.WideShapes
section
variable {H:Type} {enc:TypeId×Value->H} {P:Program} [Env P] {T:TT} {W:World}
def TOk.cellsOf(hT:TOk P T){t:TypeId}{i:TI}(h:look T t=some i):P.cellsOf t=i.size:=by obtain⟨j,hj,_,hs,_⟩:=TOk.info hT h;simp[Program.cellsOf,hj,hs]
def TOk.bytesOf(hT:TOk P T){t:TypeId}{i:TI}(h:look T t=some i):P.bytesOf t=i.bytes:=by obtain⟨j,hj,_,_,hs⟩:=TOk.info hT h;simp[Program.bytesOf,hj,hs]
def u11(i:TI)(zs:List AV):AV:=if i.agg then .agg zs else zs.headD .top
def v2e(R:TypeId->List AV->Prop):List TypeId->List AV->Prop
 |[],ys=>ys=[]
 |t::ts,ys=>∃zs rest,ys=zs++rest/\R t zs/\v2e R ts rest
def q34(R:List AV->Prop):Nat->List AV->Prop
 |0,ys=>ys=[]
 |n+1,ys=>∃zs rest,ys=zs++rest/\R zs/\q34 R n rest
def z0e(T:TT)(R:TypeId->List AV->Prop)(i:TI)(ys:List AV):Prop:=match i.desc with
 | .bool=>∃b,ys=[.bool b]
 | .int k=>∃n,ys=[.int k n]/\k.min<=n/\n<=k.max
 | .string=>∃s:List UInt8,ys=[.str s]/\s.length<=reachBytes
 | .slice e=>∃ei xs,look T e=some ei/\ys=[.list xs]/\xs.length * ei.bytes<=reachBytes/\∀x∈xs,∃zs,x=u11 ei zs/\R e zs
 | .struct fs=>v2e R (fs.toList.map (·.type)) ys
 | .array n e=>q34 (R e) n ys
 |_=>False
def Shp(T:TT):Nat->TypeId->List AV->Prop
 |0,_,_=>False
 |d+1,t,ys=>match look T t with
  |some i=>z0e T (Shp T d) i ys
  |none=>False
def Mb(T:TT):List Field->Nat->Nat->Bool
 |[],off,size=>off==size
 |f::fs,off,size=>f.offset==off && (match look T f.type with
  |some i=>Mb T fs (off+i.size) size
  |none=>false)
def O7(T:TT):Nat->TypeId->Bool
 |0,_=>false
 |d+1,t=>match look T t with
  |some i=>match i.desc with
   | .bool| .int _| .string=>i.size==1
   | .slice e=>i.size==1 && O7 T d e && (match look T e with
    |some ei=>(ei.agg || ei.size==1) && decide (0<ei.size)
    |none=>false)
   | .struct fs=>Mb T fs.toList 0 i.size && fs.toList.all λf=>O7 T d f.type
   | .array n e=>O7 T d e && (match look T e with
    |some ei=>i.size==n * ei.size
    |none=>false)
   |_=>false
  |none=>false
def A1(W:World)(cs:List Value)(ys:List AV):Prop:=cs.length=ys.length/\∀(j:Nat) (v:Value) (y:AV),cs[j]?=some v->ys[j]?=some y->PVR W (·<W.heap.size) v y
def A1.one{v:Value}{y:AV}(h:PVR W (·<W.heap.size) v y):A1 W [v] [y]:=by
 refine⟨rfl,λj u z hu hz=>?_⟩;rcases j with _|j
 ·simp only[wA,Option.some.injEq]at hu hz;subst hu;subst hz;exact h
 simp at hu
def A1.app{cs cs':List Value}{ys ys':List AV}(h:A1 W cs ys)(h':A1 W cs' ys'):A1 W (cs++cs') (ys++ys'):=by
 refine⟨by simp[h.1,h'.1],λj u z hu hz=>?_⟩;rw[List.getElem?_append]at hu hz;rw[h.1]at hu;split at hu
 ·rename_i hj;rw[if_pos hj]at hz;exact h.2 j u z hu hz
 rename_i hj;rw[if_neg hj]at hz;exact h'.2 _ u z hu hz
def U2{α β:Type}{f:α->Option β}{a:α}{l:List α}{r:List β}(h:(a::l).mapM f=some r):∃b bs,f a=some b/\l.mapM f=some bs/\r=b::bs:=by rw[List.mapM_cons]at h;simp only[Option.pure_def,Option.bind_eq_bind,xF,Option.some.injEq]at h;obtain⟨b,hb,bs,z1,rfl⟩:=h;exact⟨b,bs,hb,z1,rfl⟩
def Goal(enc:TypeId×Value->H)(P:Program)(T:TT)(W:World)(d:Nat)(t:TypeId):Prop:=∀(fuel:Nat) (cs:List Value) (x:DataW H×List MemPlace),
 DataW.trod enc P W 0 (λ_=>true) true fuel t cs=some x->(∀n∈x.1.weights P t,n<=reachBytes)->∃ys,Shp T d t ys/\A1 W cs ys
def Le(hT:TOk P T){d:Nat}:∀(fs:List Field) (off size:Nat) (cs:List Value),Mb T fs off size=true->cs.length=size->(∀f∈fs,Goal enc P T W d f.type)->∀(fuel:Nat) (xs:List (DataW H×List MemPlace)),
  (fs.mapM λf=>DataW.trod enc P W 0 (λ_=>true) true fuel f.type ((cs.drop f.offset).take (P.cellsOf f.type)))=some xs->(∀n∈DataW.weightsEach P (fs.map (·.type)) (xs.map (·.1)),n<=reachBytes)->
  ∃ys,v2e (Shp T d) (fs.map (·.type)) ys/\A1 W (cs.drop off) ys
 |[],off,size,cs,hc,hl,_,fuel,xs,h,_=>by simp only[Mb,beq_iff_eq]at hc;refine⟨[],rfl,?_⟩;rw[tf (by omega)];exact⟨rfl,by simp⟩
 |f::fs,off,size,cs,hc,hl,hg,fuel,xs,h,hw=>by
  simp only[Mb,z_,beq_iff_eq]at hc;obtain⟨z1,hc⟩:=hc;split at hc
  ·rename_i i hi;obtain⟨b,bs,hb,z6,rfl⟩:=U2 h;simp only[xJ,DataW.weightsEach,zV]at hw;have z7:P.cellsOf f.type=i.size:=TOk.cellsOf hT hi;rw[z1,z7]at hb;obtain⟨zs,z8,za⟩:=hg f (by simp) fuel _ b hb (λn hn=>hw n (.inl hn));obtain⟨rest,zb,zc⟩:=Le hT fs (off+i.size) size cs hc hl (λg zd=>hg g (by simp[zd])) fuel bs z6 (λn hn=>hw n (.inr hn));refine⟨zs++rest,⟨zs,rest,rfl,z8,zb⟩,?_⟩;have:cs.drop off=(cs.drop off).take i.size++cs.drop (off+i.size):=by rw[<-sf,xI]
   rw[this];exact za.app zc
  cases hc
def Xh{d:Nat}{e:TypeId}{c:Nat}(hg:Goal enc P T W d e):∀(n s:Nat) (cs:List Value),cs.length=(s+n) * c->∀(fuel:Nat) (xs:List (DataW H×List MemPlace)),
  ((uh s n).mapM λi=>DataW.trod enc P W 0 (λ_=>true) true fuel e ((cs.drop (i * c)).take c))=some xs->(∀k∈DataW.weightsAll P e (xs.map (·.1)),k<=reachBytes)->
  ∃ys,q34 (Shp T d e) n ys/\A1 W (cs.drop (s * c)) ys
 |0,s,cs,hl,fuel,xs,h,_=>by refine⟨[],rfl,?_⟩;rw[tf (by rw[hl];simp)];exact⟨rfl,by simp⟩
 |n+1,s,cs,hl,fuel,xs,h,hw=>by
  rw[up]at h;obtain⟨b,bs,hb,z1,rfl⟩:=U2 h;simp only[xJ,DataW.weightsAll,zV]at hw;obtain⟨zs,z6,z7⟩:=hg fuel _ b hb (λk hk=>hw k (.inl hk));obtain⟨rest,z8,za⟩:=Xh hg n (s+1) cs (by rw[hl];congr 1;omega) fuel bs z1 (λk hk=>hw k (.inr hk));refine⟨zs++rest,⟨zs,rest,rfl,z6,z8⟩,?_⟩;have:cs.drop (s * c)=(cs.drop (s * c)).take c++cs.drop ((s+1) * c):=by rw[yS,sh,<-sf,xI]
  rw[this];exact z7.app za
def X7{d:Nat}{e:TypeId}{c:Nat}(hg:Goal enc P T W d e){a:Addr}(fuel:Nat):∀(n s:Nat) (xs:List (DataW H×List MemPlace)),
  ((uh s n).mapM λi=>(W.cells? 0 (a.add (i * c)) c).bind (DataW.trod enc P W 0 (λ_=>true) true fuel e))=some xs->(∀k∈DataW.weightsAll P e (xs.map (·.1)),k<=reachBytes)->
  ∃z1:List (List AV),z1.length=n/\(∀ys∈z1,Shp T d e ys/\ys.length=c)/\∀i ys,z1[i]?=some ys->∃cs,W.cells? 0 (a.add ((s+i) * c)) c=some cs/\A1 W cs ys
 |0,s,xs,h,_=>⟨[],rfl,by simp,by simp⟩
 |n+1,s,xs,h,hw=>by
  rw[up]at h;obtain⟨b,bs,hb,za,rfl⟩:=U2 h;simp only[xJ,DataW.weightsAll,zV]at hw;obtain⟨cs,z7,hb⟩:=xF.1 hb;obtain⟨zs,zb,z8⟩:=hg fuel _ b hb (λk hk=>hw k (.inl hk));obtain⟨z1,h1,h2,h3⟩:=X7 hg fuel n (s+1) bs za (λk hk=>hw k (.inr hk));have zc:=(World.cells?_some z7).2.1;refine⟨zs::z1,by simp[h1],λys z6=>?_,λi ys hi=>?_⟩
  ·rcases yB.1 z6 with rfl|z6
   ·exact⟨zb,by rw[<-z8.1,zc]⟩
   exact h2 ys z6
  rcases i with _|i
  ·simp only[wA,Option.some.injEq]at hi;subst hi;exact⟨cs,by simpa using z7,z8⟩
  obtain⟨zd,h4,h5⟩:=h3 i ys (by simpa using hi);exact⟨zd,by rw[show s+(i+1)=s+1+i by omega];exact h4,h5⟩
def y2j{a:Addr}{v:Value}(h:W.cell? a=some v):a.block<W.heap.size:=by
 rcases Nat.lt_or_ge a.block W.heap.size with h'|h'
 ·exact h'
 simp[World.cell?,Array.getElem?_eq_none h']at h
def k02{ei:TI}{zs:List AV}(z1:ei.agg=true\/zs.length=1)(hl:ei.agg=false->∀z∈zs,z.cells=[z]):(u11 ei zs).cells=zs:=by
 unfold u11;split
 ·rfl
 rename_i h;have h':ei.agg=false:=by simpa using h
 rcases z1 with h1|h1
 ·rw[h1]at h';cases h'
 obtain⟨z,rfl⟩:=List.length_eq_one_iff.1 h1;exact hl h' z (by simp)
def Shp.leafs{d:Nat}{e:TypeId}{ei:TI}{ys:List AV}(h:Shp T d e ys)(he:look T e=some ei)(ha:ei.agg=false):∀z∈ys,z.cells=[z]:=by
 cases d with
 |zero=>exact h.elim
 |succ d=>
  unfold Shp at h;rw[he]at h;simp only[z0e]at h;unfold TI.agg at ha;split at h
  ·obtain⟨b,rfl⟩:=h;simp[AV.cells]
  ·obtain⟨n,rfl,_⟩:=h;simp[AV.cells]
  ·obtain⟨s,rfl,_⟩:=h;simp[AV.cells]
  ·obtain⟨_,xs,_,rfl,_⟩:=h;simp[AV.cells]
  ·rename_i hd;rw[hd]at ha;cases ha
  ·rename_i hd;rw[hd]at ha;cases ha
  exact h.elim
def Aa(hT:TOk P T):∀(d:Nat) (t:TypeId),O7 T d t=true->Goal enc P T W d t
 |0,_,hs=>by cases hs
 |d+1,t,hs=>by
  intro fuel cs x h hw;unfold O7 at hs;cases hi:look T t with
  |none=>rw[hi]at hs;cases hs
  |some i=>
   rw[hi]at hs;simp only at hs;have hu:=TOk.und hT hi;have hc:=TOk.cellsOf hT hi;cases fuel with
   |zero=>simp[DataW.trod]at h
   |succ fuel=>
    unfold DataW.trod at h;simp only[Shp,hi,z0e];have z1:∀ {q:TypeDesc},P.underlying t=some q->i.desc=q:=λhq=>by rw[hu]at hq;exact Option.some.inj hq
    split at h
    case h_1 b hq=>rw[z1 hq]at hs |-;simp only[Option.some.injEq]at h;exact⟨_,⟨b,rfl⟩,.one (.bool b)⟩
    case h_2 k k' n hq=>
     rw[z1 hq]at hs |-;split at h
     ·rename_i hk;obtain⟨rfl,hk⟩:=hk;simp only[Lit.wf,z_,decide_eq_true_eq]at hk;exact⟨_,⟨n,rfl,hk.1,hk.2⟩,.one (.int _ n)⟩
     cases h
    case h_4 s hq=>
     rw[z1 hq]at hs |-;split at h
     ·simp only[Option.some.injEq]at h;subst h;refine⟨_,⟨s.data.toList,rfl,hw _ (by simp[DataW.weights])⟩,.one ?_⟩;have:Value.string s= .string ⟨s.data.toList.toArray⟩:=by cases s;simp
      rw[this];exact .str _
     cases h
    case h_7 e hq=>
     rw[z1 hq]at hs |-;simp only[z_]at hs;obtain⟨⟨_,zf⟩,z6⟩:=hs;cases he:look T e with
     |none=>rw[he]at z6;cases z6
     |some ei=>exact⟨_,⟨ei,[],he,rfl,by simp,by simp⟩,.one (.list _ _ _ 0 _ (λ_ _=>undef) rfl (by simp) (by unfold maxLen;omega) (by simp) (λh0=>by simp at h0) (by simp))⟩
    case h_8 e a len cap hq=>
     rw[z1 hq]at hs |-;simp only[z_]at hs;obtain⟨⟨_,zf⟩,z6⟩:=hs;cases he:look T e with
     |none=>rw[he]at z6;cases z6
     |some ei=>
      rw[he]at z6;simp only[z_,Bool.or_eq_true,beq_iff_eq,decide_eq_true_eq]at z6;obtain⟨z6,hz⟩:=z6;have zd:=TOk.cellsOf hT he;have zh:=TOk.bytesOf hT he;rw[zd]at h;split at h
      ·rename_i hcap;simp only[xF,zQ]at h;obtain⟨elems,ze,rest,_,rfl⟩:=h;simp only[DataW.weights,hq,yB,zV]at hw;rw[uC]at ze;obtain⟨zb,h1,h2,h3⟩:=X7 (Aa hT d e zf) fuel len 0 elems ze (λk hk=>hw k (.inr (.inl hk)));have hlen:elems.length=len:=by have:=mapM_some_length ze;simpa using this
       have za:∀ys∈zb,(u11 ei ys).cells=ys:=λys z7=>by have:=h2 ys z7;refine k02 (z6.imp_right λh=>by rw[this.2,h]) (λha=>this.1.leafs he ha)
       refine⟨_,⟨ei,zb.map (u11 ei),he,rfl,?_,λx hx=>?_⟩,.one ?_⟩
       ·have:=hw _ (.inl rfl);simp only[yE]at this |-;rw[zh]at this;rw[h1];refine yP (yI _ ?_) this;omega
       ·obtain⟨ys,z7,rfl⟩:=zO.1 hx;exact⟨ys,rfl,(h2 ys z7).1⟩
       refine .list (some a) len cap ei.size _ (λi j=>(((W.cells? 0 (a.add (i * ei.size)) ei.size).getD [])[j]?).getD undef) (by simp[h1]) (by simp[h1];exact hcap.2.1) hcap.2.2 (λx hx=>?_) (λh0=>?_) (λi x hx j y hy=>?_)
       ·obtain⟨ys,z7,rfl⟩:=zO.1 hx;rw[za ys z7];exact(h2 ys z7).2
       ·have key:∀i j,i<(zb.map (u11 ei)).length->j<ei.size->W.cell? (a.add (i * ei.size+j))=some ((((W.cells? 0 (a.add (i * ei.size)) ei.size).getD [])[j]?).getD undef):=λi j zg hj=>by
         simp only[yE]at zg;obtain⟨cs,z8,hr⟩:=h3 i zb[i] (by simp[zg]);rw[xZ]at z8;rw[z8,ww];obtain⟨_,q2,q3⟩:=World.cells?_some z8;have:=q3 j hj;rw[add_add]at this;rw[this];have zi:j<cs.length:=by omega
         simp[zi]
        refine⟨a,rfl,λ_=>?_,key⟩;have:=y2j (key 0 0 h0 hz)
        rwa [block_add]at this
       rw[zU]at hx;obtain⟨ys,z7,rfl⟩:=zQ.1 hx;have hm:=zJ z7;rw[za ys hm]at hy;obtain⟨cs,z8,hr⟩:=h3 i ys z7;rw[xZ]at z8;rw[z8,ww];have hj:j<cs.length:=by rw[hr.1];exact(zB.1 hy).1
       have:=hr.2 j cs[j] y (by simp[hj]) hy;simpa[hj]using this
      cases h
    case h_9 cs _ _ fs hq=>
     rw[z1 hq]at hs |-;simp only[z_,zX]at hs;split at h
     ·rename_i hl;rw[hc]at hl;obtain⟨xs,zc,rfl⟩:=zQ.1 h;simp only[DataW.weights,hq]at hw;obtain⟨ys,h1,h2⟩:=Le hT fs.toList 0 i.size cs hs.1 hl (λf hf=>Aa hT d f.type (hs.2 f hf)) fuel xs zc hw;exact⟨ys,h1,by simpa using h2⟩
     cases h
    case h_10 cs _ _ n e hq=>
     rw[z1 hq]at hs |-;simp only[z_]at hs;cases he:look T e with
     |none=>rw[he]at hs;cases hs.2
     |some ei=>
      rw[he]at hs;simp only[beq_iff_eq]at hs;have zd:=TOk.cellsOf hT he;split at h
      ·rename_i hl;rw[hc,hs.2]at hl;obtain⟨xs,zc,rfl⟩:=zQ.1 h;simp only[DataW.weights,hq]at hw;rw[zd,uC]at zc;obtain⟨ys,h1,h2⟩:=Xh (Aa hT d e hs.1) n 0 cs (by simpa using hl) fuel xs zc hw;exact⟨ys,h1,by simpa using h2⟩
      cases h
    all_goals first
     |(cases h;done)
     |(rename_i hq;rw[z1 hq]at hs;cases hs;done)
     |(rename_i hq _;rw[z1 hq]at hs;cases hs;done)
     |(rename_i hq _ _;rw[z1 hq]at hs;cases hs;done)
     |skip
def Sv(T:TT)(d:Nat):List TypeId->List AV->Prop
 |[],xs=>xs=[]
 |t::ts,xs=>∃i zs rest,look T t=some i/\xs=u11 i zs::rest/\Shp T d t zs/\Sv T d ts rest
def c1s (hT:TOk P T) {d:Nat} {t:TypeId} (hs:O7 T d t=true) {r:Reach} {base:Nat} {v:Value} (z1:Value.okWide P W r base t v) {D:DataW H} {ps:List MemPlace} (h:DataW.Trod enc P W 0 (λ_=>true) true t v D ps)
  (hw:∀n∈D.weights P t,n<=reachBytes):∃i zs,look T t=some i/\Shp T d t zs/\PVR W (·<W.heap.size) v (u11 i zs):=by
 obtain⟨fuel,hf⟩:=h;obtain⟨ys,h1,h2⟩:=Aa hT d t hs fuel _ _ hf hw;cases d with
 |zero=>cases hs
 |succ d=>
  have z6:=h1;unfold Shp at h1;cases hi:look T t with
  |none=>rw[hi]at h1;exact h1.elim
  |some i=>
   rw[hi]at h1;have hu:=TOk.und hT hi;refine⟨i,ys,rfl,z6,?_⟩;unfold Value.okWide at z1;rw[hu]at z1;unfold u11;by_cases ha:i.agg=true
   ·rw[if_pos ha];unfold TI.agg at ha;have:∃cs,v= .agg cs:=by
     split at ha
     ·rename_i hd;rw[hd]at z1;obtain⟨cs,hc,_⟩:=z1;exact⟨cs,hc⟩
     ·rename_i hd;rw[hd]at z1;obtain⟨cs,hc,_⟩:=z1;exact⟨cs,hc⟩
     cases ha
    obtain⟨cs,rfl⟩:=this;exact .agg cs ys (by simpa[Value.cells]using h2.1) (λj u y hu hy=>h2.2 j u y (by simpa[Value.cells]using hu) hy)
   rw[if_neg ha];have z7:∃y,ys=[y]:=by
    simp only[z0e]at h1;unfold TI.agg at ha;split at h1
    ·obtain⟨b,rfl⟩:=h1;exact⟨_,rfl⟩
    ·obtain⟨b,rfl,_⟩:=h1;exact⟨_,rfl⟩
    ·obtain⟨b,rfl,_⟩:=h1;exact⟨_,rfl⟩
    ·obtain⟨_,xs,_,rfl,_⟩:=h1;exact⟨_,rfl⟩
    ·rename_i hd;rw[hd]at ha;exact absurd rfl ha
    ·rename_i hd;rw[hd]at ha;exact absurd rfl ha
    exact h1.elim
   obtain⟨y,rfl⟩:=z7;have z8:∀cs,v≠ .agg cs:=by
    rintro cs rfl;have hcell:Cell.okWide P W r base t (.agg cs):=by
     unfold TI.agg at ha;split at z1
     ·rename_i heq;rw[Option.some.inj heq]at ha;exact absurd rfl ha
     ·rename_i heq;rw[Option.some.inj heq]at ha;exact absurd rfl ha
     exact z1
    simp only[z0e]at h1;unfold Cell.okWide at hcell;rw[hu]at hcell;split at h1;all_goals first|(exact h1.elim)|skip
    all_goals (rename_i hd;rw[hd]at hcell)
    all_goals first|(simp[Cell.ok,hu,hd]at hcell;done)|skip
   have za:v.cells.toList=[v]:=by cases v<;>first|rfl|exact absurd rfl (z8 _)
   rw[za]at h2;exact h2.2 0 v y rfl rfl
def N8(hT:TOk P T){d:Nat}{r:Reach}{base:Nat}:∀(ts:List TypeId) (vs:List Value) (ds:List (DataW H)) (ps:List MemPlace),ts.all (O7 T d)=true->DataW.TrodAll enc P W 0 (λ_=>true) true ts vs ds ps->
  (∀(j:Nat) t v,ts[j]?=some t->vs[j]?=some v->Value.okWide P W r base t v)->(∀n∈DataW.weightsEach P ts ds,n<=reachBytes)->
  ds.length=ts.length/\∃xs,Sv T d ts xs/\vs.length=xs.length/\∀(j:Nat) (v:Value) (x:AV),vs[j]?=some v->xs[j]?=some x->PVR W (·<W.heap.size) v x
 |[],vs,ds,ps,_,h,_,_=>by obtain⟨rfl,rfl,_⟩:=trodAll_nil h;exact⟨rfl,[],rfl,rfl,by simp⟩
 |t::ts,vs,ds,ps,hs,h,z1,hw=>by
  obtain⟨v,z6,D,z7,p,q,rfl,rfl,rfl,h0,h1⟩:=trodAll_cons h;simp only[uA,z_]at hs;simp only[DataW.weightsEach,zV]at hw;obtain⟨i,zs,g1,g2,g3⟩:=c1s hT hs.1 (z1 0 t v rfl rfl) h0 (λn hn=>hw n (.inl hn));obtain⟨k0,xs,k1,k2,k3⟩:=N8 hT ts z6 z7 q hs.2 h1 (λj t v a b=>z1 (j+1) t v (by simpa using a) (by simpa using b)) (λn hn=>hw n (.inr hn));refine⟨by simp[k0],u11 i zs::xs,⟨i,zs,xs,g1,rfl,g2,k1⟩,by simp[k2],λj u x hu hx=>?_⟩;rcases j with _|j
  ·simp only[wA,Option.some.injEq]at hu hx;subst hu;subst hx;exact g3
  exact k3 j u x (by simpa using hu) (by simpa using hx)
def S0(hl:laidOutB P=true){W':World}{sp:Nat->Bool}:∀(ts:List TypeId) (vs:List Value) (ds:List (DataW H)) (ps:List MemPlace),(ts.all λt=>P.readableRec t && decide (t<P.types.size))=true->
  DataW.TrodAll enc P W 0 (λ_=>true) true ts vs ds ps->(∀p∈ps,W.sameAt W' p)->(∀p∈ps,sp p.block=true)->DataW.TrodAll enc P W' 0 sp true ts vs ds ps
 |[],vs,ds,ps,_,h,_,_=>by obtain⟨rfl,rfl,rfl⟩:=trodAll_nil h;rfl
 |t::ts,vs,ds,ps,hr,h,z1,hsp=>by
  obtain⟨v,z6,D,z7,p,q,rfl,rfl,rfl,h0,h1⟩:=trodAll_cons h;simp only[uA,z_,decide_eq_true_eq]at hr;exact⟨p,q,WideElems.Trod_stays hl hr.1.1 hr.1.2 h0 (λx hx=>z1 x (by simp[hx])) (λx hx=>hsp x (by simp[hx])),
   S0 hl ts z6 z7 q hr.2 h1 (λx hx=>z1 x (by simp[hx])) (λx hx=>hsp x (by simp[hx])),rfl⟩
def g0m {fn:Func} {s:ChangeSpec} {apart fresh handsOn again:Bool} {W':World} {args:Array Value} {ds:List (DataW H)} {before:List MemPlace} {tb:TypeId} (hl:laidOutB P=true)
  (z6:fn.resultTypes= #[tb]) (hb:P.underlying tb=some .bool) (z7:(fn.params.toList.all λt=>P.readableRec t && decide (t<P.types.size))=true) (z1:s.vars=[])
  (z8:s.fn H ds={ results:=[.lit (.bool true)],args:=ds })
  (hW:DataW.Whole enc P fn.params.toList s.vars apart W args.toList ds [] before) (zb:Below W.heap.size W W'):s.post enc P fn apart fresh handsOn again W args (.bool true) W':=by
 have za:=hW.lt;have zc:=hW;obtain⟨p,q,hA,hV,rfl,hz,hn⟩:=hW;rw[z1]at hV;obtain⟨_,rfl⟩:=trodVars_none hV;simp only[yV]at zc za hz hn;have hst:∀sp:Nat->Bool,(∀x∈p,sp x.block=true)->DataW.TrodAll enc P W' 0 sp true fn.params.toList args.toList ds p:=λsp ze=>S0 hl _ _ _ _ z7 hA (λx hx=>zb.same (za x hx)) ze;have hold:∀x∈p,(λb=>decide (b<W.heap.size)) x.block=true:=λx hx=>by simpa using za x hx
 have zd:∀(b:Nat) (sp:Nat->Bool) (hd:Bool),DataW.TrodAll enc P W' b sp hd fn.resultTypes.toList ((Value.bool true).resultList fn.resultTypes.size) (s.fn H ds).results []:=λb sp hd=>by rw[z6,z8];exact trodAll_mk1 (shut_bool hb true)
 refine⟨ds,[],p,[],p,[],zc,by simpa using zd _ _ _,by simpa[z8]using hst _ hold,by rw[yV,z8,z1];rfl,World.keptBut_mono (λx hx=>⟨hx,.inr (.inl hx)⟩) (zb.frame (·∈p)),λ_=>?_⟩;refine⟨ok_one z6 rfl (okWide_bool_mk hb true),_,[],([]++p)++[],⟨[]++p,[],trodAll_append (by simpa[z8]using hst _ (λ_ _=>rfl)) (by simpa using zd _ _ _),by rw[z1];rfl,rfl,?_,?_⟩,?_⟩
 ·intro b off hp;simp only[vM,yV]at hp;have zf:=za _ hp;rw[zb.frozen zf];exact hz b off hp
 ·intro ha;simpa using hn ha
 intro x hx _;simpa using hx
def w12 (hT:TOk P T) (hl:laidOutB P=true) {f:FuncId} {fn:Func} {d:Nat} {tb:TypeId} (z8:fn.resultTypes= #[tb]) (hb:P.underlying tb=some .bool)
  (z7:(fn.params.toList.all λt=>P.readableRec t && decide (t<P.types.size))=true) (z1:fn.params.toList.all (O7 T d)=true)
  (hE:EOK P W (·<W.heap.size)) (zc:∀xs,Sv T d fn.params.toList xs->PC P f xs (λr=>r= .bool true)) {s:ChangeSpec} (z6:s.vars=[])
  (zd:∀ds:List (DataW H),ds.length=fn.params.toList.length->s.fn H ds={ results:=[.lit (.bool true)],args:=ds }) {apart fresh handsOn again:Bool}
  {base:Nat} {args:Array Value} {ds gs:List (DataW H)} {before:List MemPlace} (za:∀(j:Nat) t v,fn.params[j]?=some t->args[j]?=some v->Value.okWide P W .any base t v)
  (hW:DataW.Whole enc P fn.params.toList s.vars apart W args.toList ds gs before) {vt:List TypeId} (ze:vt=[]) (zb:(DataW.weightsEach P (fn.params.toList++vt) (ds++gs)).all (·<=reachBytes)=true):
  Calls P f args W λe W'=>∃v,e= .returned v/\s.post enc P fn apart fresh handsOn again W args v W':=by
 have zf:=hW;obtain⟨p,q,hA,hV,rfl,hz,hn⟩:=hW;rw[z6]at hV;obtain⟨rfl,rfl⟩:=trodVars_none hV;rw[ze,yV,yV]at zb;have hw:∀n∈DataW.weightsEach P fn.params.toList ds,n<=reachBytes:=λn hn=>by simpa using zX.1 zb n hn
 obtain⟨hlen,xs,hx,zg,zh⟩:=N8 hT fn.params.toList args.toList ds p z1 hA (λj t v a b=>za j t v (by simpa using a) (by simpa using b)) hw;refine((zc xs hx).2 W (·<W.heap.size) args hE (λ_ h=>h) (by simpa using zg) (λj v x a b=>zh j v x (by simpa using a) b)).mono ?_;rintro e W' ⟨v,I',r,rfl,rfl,zi,_,_,hv⟩;cases hv;exact⟨_,rfl,g0m hl z8 hb z7 z6 (zd ds hlen) (by simpa using zf) zi⟩
end
end
section
open Go.RowKit
section
variable {P:Program} [Env P] {T:TT} {nt k:Nat} {S:AS} {ops:Array Oper} {o:Oper} {R:AS->Prop}
@[simp] def byteAV (c:UInt8):AV:= .int .u8 c.toNat
def y00 (hT:TOk P T) {wr:Bool} (hw:Qn ops S o=some true) {x:Operand} {src dst e:TypeId} (ho:o.op= .convert src dst x) {it ei idst:TI} (ht:look T src=some it) (hit:it.desc= .slice e) (he:look T e=some ei) (ze:ei.desc= .int .u8)
  (z8:look T dst=some idst) (hid:idst.desc= .string) {xv:AV} (hx:rho S.sl x=some xv) {s:List UInt8} (hs:Kp S.hp xv=some (s.map byteAV)) (hd:Wx nt o=true) (hR:R (S.putD o.dst (.str s))):Q7 P nt k wr ops o S R:=λC a w K Q hst hK=>by
 unfold OpW;rw[if_pos (hst.wanted hw)];obtain⟨I,m,zb,zc,hk,hE⟩:=hst;obtain⟨ao,cap,u,zd,hcell,zf⟩:=J0 zb (Ql zc hx) hs;have z1:=hT.und ht;rw[hit]at z1;have z6:=hT.und he;rw[ze]at z6;have z7:=hT.und z8;rw[hid]at z7;rw[yE]at zd hcell;have za:(convert src dst (a.eval x)).run P w= .ok (.string ⟨s.toArray⟩) w:=by
  rw[zd];rcases wY s.length with h0|h0
  ·have zg:=wI h0;subst zg;cases ao with
   |none=>rw[run_convert_bytes_string w src dst e none _ cap z1 z6 z7];simp[Conv.bytesToString];rfl
   |some ad=>exact run_convert_bytes_back w src dst e ad cap [] z1 z6 z7 (λj hj=>by simp at hj)
  obtain⟨ad,rfl,c,zh,zi⟩:=hcell h0;refine run_convert_bytes_back w src dst e ad cap s z1 z6 z7 (λj hj=>?_);have hc:c=1:=by rw[<-zh (byteAV s[0]) (zO.2 ⟨s[0],zL h0,rfl⟩)];rfl
  subst hc;have h1:=zi j 0 hj (by omega);rw[Nat.mul_one,Nat.add_zero]at h1;have h2:=zf j (byteAV s[j]) (by simp[hj]) 0 (byteAV s[j]) rfl;rw[h1];have h3:u j 0= .int .u8 (s[j]).toNat:=(VR.pure (m:=m) (n:=0) h2).int_inv;rw[h3]
 unfold wpA;have:(execOp a.eval o).run P w= .ok (.value (.string ⟨s.toArray⟩)) w:=by simp only[execOp,ho];rw[Sem.run_bind,za];rfl
 rw[this];exact hK _ _ w hR (St.value zc hk hE zb (Fut.refl _ _ _ _) (zS _) (Qi hd) (.pure (.str _))) (λ_=>Tu.refl w)
end
end
section
open Go.RowKit
def AV.val:AV->Option Value
 | .bool b=>some (.bool b)
 | .int k n=>some (.int k n)
 | .str s=>some (.string ⟨s.toArray⟩)
 |_=>none
def PVR.val{w:World}{I:Nat->Prop}{v u:Value}{x:AV}(h:PVR w I v x)(hx:x.val=some u):v=u:=by cases x<;>simp[AV.val]at hx<;>subst hx<;>cases h<;>rfl
end
section
open Go.RowKit
section
variable {P:Program} [Env P] {T:TT} {nt k:Nat} {Q:Exit->AS->Prop} {S:AS} {ops:Array Oper} {o:Oper} {R:AS->Prop}
def c0v {wr:Bool} (hw:Qn ops S o=some true) (hd:Wx nt o=true) {r:AV}
  (h:∀(W0:World) (I0:Nat->Prop) (w:World) (I:Nat->Prop) (m:Nat->Option Nat) (a:Act),WS W0 I0 w I m S.hp->Ri nt S.sl a w I m S.hp.length->
   ∃v,(execOp a.eval o).run P w= .ok (.value v) w/\VR w I m S.hp.length v r) (hR:R (S.putD o.dst r)):Q7 P nt k wr ops o S R:=λC a w K Q hst hK=>by
 unfold OpW;rw[if_pos (hst.wanted hw)];obtain⟨I,m,z6,z7,hk,hE⟩:=hst;obtain⟨v,z1,hv⟩:=h _ _ w I m a z6 z7;unfold wpA;rw[z1];exact hK _ _ w hR (St.value z7 hk hE z6 (Fut.refl _ _ _ _) (zS _) (Qi hd) hv) (λ_=>Tu.refl w)
end
end
section
open Go.RowKit
section
variable {W0 w:World} {I0 I:Nat->Prop} {m:Nat->Option Nat} {H:List AObj}
def WS.addI(h:WS W0 I0 w I m H){l:Nat}(h1:l<w.heap.size)(h2:W0.heap.size<=l)(h3:∀(id:Nat) (o:AObj),H[id]?=some o->o.live=true->m id≠some l):WS W0 I0 w (λb=>I b\/b=l) m H:=by
 have hf:Fut H.length w I m w (λb=>I b\/b=l) m:=⟨⟨λ_ h=> .inl h,λ_ _=>rfl⟩,λ_ _=>rfl,λ_ _ h=>h⟩
 refine⟨h.below,λb hb=> .inl (h.i0 b hb),λb hb=>?_,λid o ho=>(h.obj id o ho).mono hf (zS _) (λ_ _ _=>rfl),λid o b ho hl hm=>?_,h.inj⟩
 ·rcases hb with hb|rfl
  ·exact h.iw b hb
  exact⟨h1,.inr h2⟩
 have:=h.own id o b ho hl hm;refine⟨this.1,λhc=>?_,this.2.2⟩;rcases hc with hc|rfl
 ·exact this.2.1 hc
 exact h3 id o ho hl hm
def WS.revive (h:WS W0 I0 w I m H) {q l:Nat} {o':AObj} (ho:H[q]?=some .dead) (hm:m q=some l) (h1:l<w.heap.size) (h2:W0.heap.size<=l) (hI:¬I l) (h3:∀(id:Nat) (o:AObj),H[id]?=some o->o.live=true->m id≠some l)
  (hO:Ug w I m H.length (some l) o'):WS W0 I0 w I m (H.set q o'):=by
 have hq:q<H.length:=(zB.1 ho).1;have z1:∀(k:Nat) (p:AObj),(H.set q o')[k]?=some p->(k≠q/\H[k]?=some p)\/(k=q/\p=o'):=λk p hp=>by
  by_cases hk:k=q
  ·subst hk;rw[zK hq]at hp;exact .inr ⟨rfl,(Option.some.inj hp).symm⟩
  rw[zE (by omega)]at hp;exact .inl ⟨hk,hp⟩
 refine⟨h.below,h.i0,h.iw,λk p hp=>?_,λk p c hp lp mc=>?_,λi j oi oj c hi hj li lj mi mj=>?_⟩
 ·rw[w_];rcases z1 k p hp with⟨_,h5⟩|⟨rfl,rfl⟩
  ·exact h.obj k p h5
  rw[hm];exact hO
 ·rcases z1 k p hp with⟨_,h5⟩|⟨rfl,rfl⟩
  ·exact h.own k p c h5 lp mc
  rw[hm]at mc;cases mc;exact⟨h2,hI,h1⟩
 rcases z1 i oi hi with⟨a1,a2⟩|⟨rfl,rfl⟩
 ·rcases z1 j oj hj with⟨b1,b2⟩|⟨rfl,rfl⟩
  ·exact h.inj i j oi oj c a2 b2 li lj mi mj
  rw[hm]at mj;cases mj;exact absurd mi (h3 i oi a2 li)
 rcases z1 j oj hj with⟨b1,b2⟩|⟨rfl,rfl⟩
 ·rw[hm]at mi;cases mi;exact absurd mj (h3 j oj b2 lj)
 rfl
end
def Rh:List (Nat×AV)->List Tmp->List AV->List (Nat×AV)
 |sl,p::ps,x::xs=>Rh (put sl p x) ps xs
 |sl,_,_=>sl
def D8{w:World}{I:Nat->Prop}{m:Nat->Option Nat}{n nt:Nat}:∀(ps:List Tmp) (xs:List AV) (vs:List Value) (sl:List (Nat×AV)) (tm:Array Value),ps.length=xs.length->vs.length=xs.length->(ps.all λp=>decide (p<nt))=true->
  (∀(i:Nat) (v:Value) (x:AV),vs[i]?=some v->xs[i]?=some x->VR w I m n v x)->tm.size=nt->(∀(t:Nat) (x:AV),look sl t=some x->∃v,tm[t]?=some v/\VR w I m n v x)->
  ((ps.zip vs).foldl (λ(tm:Array Value) (p:Tmp×Value)=>tm.setIfInBounds p.1 p.2) tm).size=nt/\∀(t:Nat) (x:AV),look (Rh sl ps xs) t=some x->∃v,((ps.zip vs).foldl (λ(tm:Array Value) (p:Tmp×Value)=>tm.setIfInBounds p.1 p.2) tm)[t]?=some v/\VR w I m n v x
 |[],_,_,sl,tm,_,_,_,_,h1,h2=>⟨h1,h2⟩
 |p::ps,[],_,_,_,hl,_,_,_,_,_=>by cases hl
 |p::ps,x::xs,[],_,_,_,hl,_,_,_,_=>by cases hl
 |p::ps,x::xs,v::vs,sl,tm,z1,z6,hp,hv,h1,h2=>by
  simp only[uA,z_,decide_eq_true_eq]at hp;simp only[List.zip_cons_cons,List.foldl_cons,Rh];refine D8 ps xs vs (put sl p x) _ (by simpa using z1) (by simpa using z6) hp.2 (λi v x a b=>hv (i+1) v x a b) (by simpa using h1) (λt y hy=>?_);rw[Jf]at hy;by_cases ht:t=p
  ·subst ht;rw[if_pos rfl]at hy;cases hy;exact⟨v,by simp[h1,hp.1],hv 0 v _ rfl rfl⟩
  rw[if_neg ht]at hy;obtain⟨u,hu,hr⟩:=h2 t y hy;exact⟨u,by rw[Array.getElem?_setIfInBounds_ne (Ne.symm ht)];exact hu,hr⟩
section
variable {P:Program} [Env P] {T:TT} {nt k:Nat} {S:AS} {ops:Array Oper} {o:Oper} {R:AS->Prop}
def w0b(q:Nat)(Rr:Option Code->List AObj->Prop):Exit->AS->Prop
 | .normal,S=>S.hp[q]?=some .dead/\Rr none S.hp
 | .ret,S=>S.hp[q]?=some .dead/\Rr (some .ret) S.hp
 | .exit id,S=>S.hp[q]?=some .dead/\Rr (some (.exit id)) S.hp
 |_,_=>False
def Vt{a:Act}{w:World}{cf:Operand}{args:Array Operand}{ts:Array TypeId}(ho:o.op= .call ⟨.value cf,args,ts⟩){l:Nat}(hf:a.eval cf= .func (.yield l) #[] #[]){r:Loop}(hr:w.heap[l]?=some (.loop r))(hs:args.size=r.params.size):
  (execOp a.eval o).run P w= .ok (.round l r.fn ((r.params.zip (args.map a.eval)).foldl (λtmps (t,a)=>tmps.setIfInBounds t a) r.tmps) r.assign r.body) w:=by
 have:=run_yield (P:=P) (args:=args.map a.eval) hr (by simpa using hs);simp only[execOp,ho,resolve,hf,Deferred.ofValue,invoke];simp[this]
def Tb {cf:Operand} {args:Array Operand} {ts:Array TypeId} (hw:Qn ops S o=some true) (ho:o.op= .call ⟨.value cf,args,ts⟩) {q:Nat} (zv:rho S.sl cf=some (.yld q)) {xs:List AV} (zw:Qy (args.toList.map (rho S.sl))=some xs)
  {zc:Nat} {sl':List (Nat×AV)} {ps:List Tmp} {asg body:Code} (zl:S.hp[q]?=some (.lp true none zc sl' ps asg body)) (hlen:ps.length=xs.length) (zx:(ps.all λp=>decide (p<zc))=true) (hd:Wx nt o=true)
  (Rr:Option Code->List AObj->Prop)
  (z8:AWP P zc S.hp.length asg (Pf (AWP P zc S.hp.length body (w0b q Rr)) (λ_ _=>False)) ⟨Rh sl' ps xs,S.hp.set q .dead⟩)
  (hR:∀(jump:Option Code) (H':List AObj),Rr jump H'->R (({ S with hp:=H'.set q (.lp jump.isNone jump zc sl' ps asg body) }:AS).putD o.dst (.bool jump.isNone))):Q7 P nt k true ops o S R:=λC a w K Q hst hK=>by
 unfold OpW;rw[if_pos (hst.wanted hw)];obtain⟨I,m,zg,zm,hk,hE⟩:=hst;obtain⟨l,zh,hq,zy⟩:=(Ql zm zv).yld_inv;obtain⟨e5,e6⟩:=C6 (g:=true) rfl zm zw;obtain⟨b,r,hb,hh,q1,q2,q3,q4,q5,q6,q7⟩:=zg.obj q _ zl;obtain rfl:l=b:=by rw[zh]at hb;exact Option.some.inj hb
 obtain⟨o1,o2,o3⟩:=zg.own q _ l zl rfl zh;have zz:args.size=r.params.size:=by rw[q3];simp at e5 |-;omega
 unfold wpA;rw[Vt ho zy hh zz];simp only[f1b];have zd:(r.params.zip (args.map a.eval)).foldl (λtmps (t,a)=>tmps.setIfInBounds t a) r.tmps=(ps.zip (args.map a.eval).toList).foldl (λ(tm:Array Value) (p:Tmp×Value)=>tm.setIfInBounds p.1 p.2) r.tmps:=by rw[q3,<-Array.foldl_toList,Array.toList_zip]
 rw[zd];obtain⟨s1,s2⟩:=D8 (w:=w) (I:=I) (m:=m) (n:=S.hp.length) ps xs (args.map a.eval).toList sl' r.tmps hlen (by simpa using e5) zx (λi v x hv hx=>e6 i v x (by simpa using hv) hx) q6 q7;generalize y8:(ps.zip (args.map a.eval).toList).foldl (λ(tm:Array Value) (p:Tmp×Value)=>tm.setIfInBounds p.1 p.2) r.tmps=TM at *
 refine roundIn_of_wpIn trivial ?_;obtain⟨f1,f2⟩:=zg.freeze zl rfl zh;rw[q4,q5];have zn:∀b,I b->b≠l:=λb hb e=>o2 (e▸hb);refine wpIn_mono (z8 ⟨C.W0,C.I0,w,λc=>I c\/c=l,m,C.hE,some l⟩ { tmps:=TM,defers:=[] } w ⟨_,m,f1,⟨s1,trivial,λt x hx=>by
  obtain⟨v,hv,hr⟩:=s2 t x hx;exact⟨v,hv,by simpa using hr.mono f2 (zS _)⟩⟩,by simp,⟨.refl _ _ _ _,(λh=>(by cases h)),λl' hl'=>by cases hl';exact⟨.inr rfl,r,hh⟩⟩⟩) ?_
 rintro e a2 w2 ⟨S2,hQ,I2,m2,g1,g2,g3,g4⟩;cases e with
 |normal=>
  have z6:I2 l:=g4.fut.ext.sub l (.inr rfl);have zi:w2.heap[l]?=some (.loop r):=(g4.fut.ext.imm l (.inr rfl)).trans hh;have zq:l<w2.heap.size:=(yT.1 zi).1;refine⟨w2.putObj l (.loop { r with state:= .busy }),run_beginRound zi (by rw[q1];rfl),?_⟩;have zj:Shut w2 (w2.putObj l (.loop { r with state:= .busy })) I2 (·=l):=⟨World.putObj_size,λb hb=>World.putObj_heap_other hb,λb o hb ho=>by subst hb;rw[zi]at ho;cases ho;rfl,λb es ck hb hm=>by subst hb;rw[zi]at hm;cases hm⟩
  have y0:Below C.W0.heap.size w2 (w2.putObj l (.loop { r with state:= .busy })):=⟨rfl,rfl,rfl,by simp,λb hb=>World.putObj_heap_other (by omega)⟩
  have ze:∀b,b=l->¬C.I0 b:=λb hb h=>by subst hb;exact o2 (zg.i0 _ h)
  have y1:=g1.shut zj y0 ze (λb hb=>by subst hb;exact z6);have y2:∀(id:Nat) (o:AObj),S2.hp[id]?=some o->o.live=true->m2 id≠some l:=λid o ho hl hm=>(g1.own id o l ho hl hm).2.1 z6;have g1'':=y1.addI (l:=l) (by simpa using zq) o1 y2;have zo:(λb=>(I2 b/\¬b=l)\/b=l)=I2:=by
   funext b;apply propext;by_cases hb:b=l
   ·subst hb;simp[z6]
   simp[hb]
  rw[zo]at g1'';have y3:Fut S2.hp.length (w2.putObj l (.loop { r with state:= .busy })) (λb=>I2 b/\¬b=l) m2 (w2.putObj l (.loop { r with state:= .busy })) I2 m2:=⟨⟨λ_ h=>h.1,λ_ _=>rfl⟩,λ_ _=>rfl,λ_ _ h=>h⟩
  have zr:=g2.shut zj;have zt:(w2.putObj l (.loop { r with state:= .busy })).heap[l]?=some (.loop { r with state:= .busy }):=World.putObj_heap_same zq;refine wpIn_mono (hQ ⟨C.W0,C.I0,w2.putObj l (.loop { r with state:= .busy }),I2,m2,C.hE,some l⟩ a2 _ ⟨I2,m2,g1'',⟨zr.1,trivial,λt x hx=>by
   obtain⟨v,hv,hr⟩:=zr.2.2 t x hx;exact⟨v,hv,hr.mono y3 (zS _)⟩⟩,g3,⟨.refl _ _ _ _,(λh=>(by cases h)),λl' hl'=>by cases hl';exact⟨z6,_,zt⟩⟩⟩) ?_
  rintro e4 a4 w4 ⟨S4,z7,I4,m4,k1,k2,k3,k4⟩;have zf:I4 l:=k4.fut.ext.sub l z6;have zk:w4.heap[l]?=some (.loop { r with state:= .busy }):=(k4.fut.ext.imm l z6).trans zt;have zu:l<w4.heap.size:=(yT.1 zk).1;have key:∀jump:Option Code,S4.hp[q]?=some .dead->Rr jump S4.hp->∃v w',(Instr.endRound l jump).run P w4= .ok v w'/\K (a.put o.dst v) w':=λjump y4 y5=>by
   refine⟨_,_,run_endRound jump zk,?_⟩;generalize z1:({ ({ r with state:= .busy }:Loop)with state:=if jump.isNone=true then LoopState.ready else LoopState.done,pending:=jump }:Loop)=r5;have za:Shut w4 (w4.putObj l (.loop r5)) I4 (·=l):=⟨World.putObj_size,λb hb=>World.putObj_heap_other hb,λb o hb ho=>by subst hb;rw[zk]at ho;cases ho;rfl,λb es ck hb hm=>by subst hb;rw[zk]at hm;cases hm⟩
   have zp:Below C.W0.heap.size w4 (w4.putObj l (.loop r5)):=⟨rfl,rfl,rfl,by simp,λb hb=>World.putObj_heap_other (by omega)⟩
   have y6:=k1.shut za zp ze (λb hb=>by subst hb;exact zf);have zb:Fut S.hp.length w I m (w4.putObj l (.loop r5)) (λb=>I4 b/\¬b=l) m4:=by
    refine⟨⟨λb hb=>⟨k4.fut.ext.sub b (g4.fut.ext.sub b (.inl hb)),zn b hb⟩,λb hb=>?_⟩,λid hid=>?_,λb s hs=>?_⟩
    ·rw[za.same b (zn b hb),k4.fut.ext.imm b (g4.fut.ext.sub b (.inl hb)),zj.same b (zn b hb),g4.fut.ext.imm b (.inl hb)]
    ·exact(k4.fut.ids id hid).trans (g4.fut.ids id hid)
    exact(za.fut (m:=m) 0).shape _ _ (k4.fut.shape _ _ ((zj.fut (m:=m) 0).shape _ _ (g4.fut.shape _ _ hs)))
   have y7:m4 q=some l:=(zb.ids q hq).trans zh;have k1'':=y6.revive (o':= .lp jump.isNone jump zc sl' ps asg body) y4 y7 (by simpa using zu) o1 (λh=>h.2 rfl) (λid o ho hl hm=>(k1.own id o l ho hl hm).2.1 zf)
    ⟨l,r5,rfl,World.putObj_heap_same zu,by rw[<-z1],by rw[<-z1],by rw[<-z1];exact q3,by rw[<-z1];exact q4,by rw[<-z1];exact q5,by rw[<-z1];exact q6,λt x hx=>by
     obtain⟨v,hv,hr⟩:=q7 t x hx;exact⟨v,by rw[<-z1];exact hv,hr.mono zb k3⟩⟩
   exact hK _ _ _ (hR jump S4.hp y5) (St.value zm hk hE k1'' zb (by simpa using k3) (Qi hd) (.pure (.bool _))) (λh=>by cases h)
  cases e4 with
  |normal=>exact key none z7.1 z7.2
  |ret=>exact key (some .ret) z7.1 z7.2
  |exit id=>exact key (some (.exit id)) z7.1 z7.2
  |goto l=>exact z7.elim
  |panic c=>exact z7.elim
  |outgrown=>exact z7.elim
 |exit id=>exact hQ.elim
 |goto l=>exact hQ.elim
 |ret=>exact hQ.elim
 |panic c=>exact hQ.elim
 |outgrown=>exact hQ.elim
def Cs{P:Program}{a:Act}{w:World}{g:Operand}{l:Nat}{f:FuncId}{us:Array Value}(hg:a.eval g= .func (.func f) #[] us)(hc:T7 P f):
  ∃d:Deferred,(resolve a.eval (rangeCall g l) 0).run P w= .ok d w/\(invoke d.target d.args).run P w= .ok (.enter f (#[.func (.yield l) #[] #[]]++us)) w:=by
 obtain⟨fn,h1,h2,h3⟩:=hc;have z1:¬fn.name= "runtime.NumGoroutine" :=by simpa using h3
 refine⟨_,by simp only[resolve,hg];rfl,?_⟩;simp[Deferred.ofValue,invoke,callFunc,h1,z1,Act.eval];exact λhb=>absurd h2 (by simp[hb])
def f0j{C:Cx P}{a:Act}{w:World}{I:Nat->Prop}{m:Nat->Option Nat}{fnum:FuncId}{ps:List Tmp}{asg body:Code}(hE:FutC C k a w I m):∃(l:Nat) (mark:List Nat) (w1:World) (r:Loop),(Instr.enterLoop fnum a.tmps ps.toArray asg body C.ro).run P w= .ok (l,mark.map q07) w1/\Below w.heap.size w w1/\w.heap.size<=l/\l<w1.heap.size/\w1.heap[l]?=some (.loop r)/\
   r.state= .ready/\r.pending=none/\r.params=ps.toArray/\r.assign=asg/\r.body=body/\r.tmps=a.tmps/\mark.Nodup/\∀D∈mark,w.heap.size<=D/\D<w1.heap.size/\D≠l/\w1.heap[D]?=some (.deferred (some [])):=by
 cases hro:C.ro with
 |none=>
  refine⟨_,[w.heap.size],_,({ state:= .ready,pending:=none,fn:=fnum,tmps:=a.tmps,params:=ps.toArray,assign:=asg,body:=body,defers:=w.heap.size }:Loop),run_enterLoop_outer _ _ _ _ _,⟨rfl,rfl,rfl,by simp;omega,λb hb=>?_⟩,by omega,by simp,?_,rfl,rfl,rfl,rfl,rfl,rfl,by simp,λD hD=>?_⟩
  ·simp only[World.alloc,vN];rw[if_neg (by simp;omega),if_neg (by omega)]
  ·have:=World.alloc_heap_new (w.alloc (.deferred (some []))) (.loop { state:= .ready,pending:=none,fn:=fnum,tmps:=a.tmps,params:=ps.toArray,assign:=asg,body:=body,defers:=w.heap.size });rw[World.size_alloc]at this;exact this
  obtain rfl:=List.mem_singleton.1 hD;refine⟨zS _,by simp;omega,by omega,?_⟩;simp only[World.alloc,vN];simp
 |some l0=>obtain⟨_,r0,h0⟩:=hE.rnd l0 hro;refine⟨_,[],_,({ state:= .ready,pending:=none,fn:=fnum,tmps:=a.tmps,params:=ps.toArray,assign:=asg,body:=body,defers:=r0.defers }:Loop),run_enterLoop_inner h0 _ _ _ _ _,⟨rfl,rfl,rfl,by simp,λb hb=>?_⟩,zS _,by simp,World.alloc_heap_new _ _,rfl,rfl,rfl,rfl,rfl,rfl,by simp,λD hD=>by cases hD⟩;simp only[World.alloc,vN];rw[if_neg (by omega)]
def y1q {C:Cx P} {a:Act} {w w1 w3:World} {I I':Nat->Prop} {m m':Nat->Option Nat} {l:Nat} {mark:List Nat} {H':List AObj} {rdy:Bool} {pend:Option Code} {ze:Nat} {sl':List (Nat×AV)} {ps':List Tmp} {asg' body':Code}
  (z6:WS C.W0 C.I0 w I m S.hp) (z8:Ri nt S.sl a w I m S.hp.length) (hk:k<=S.hp.length) (hE:FutC C k a w I m) (zi:Below w.heap.size w w1) (zj:w.heap.size<=l) (zf:mark.Nodup)
  (z1:∀D∈mark,w.heap.size<=D/\D<w1.heap.size/\D≠l/\w1.heap[D]?=some (.deferred (some []))) (g2:Fut S.hp.length w I m w1 (λb=>I b\/b∈mark) (upd m S.hp.length (some l)))
  (k1:WS C.W0 C.I0 w3 I' m' H') (k2:S.hp.length+1<=H'.length) (k3:Fut (S.hp.length+1) w1 (λb=>I b\/b∈mark) (upd m S.hp.length (some l)) w3 I' m') (za:H'[S.hp.length]?=some (.lp rdy pend ze sl' ps' asg' body')):
  ∃r3:Loop,w3.heap[l]?=some (.loop r3)/\r3.state≠ .busy/\r3.pending=pend/\St C nt k ⟨S.sl,H'.set S.hp.length .dead⟩ { a with defers:=mark.map q07++a.defers } (w3.putObj l (.loop { r3 with state:= .exhausted })):=by
 obtain⟨b,r3,zb,z7,p1,p2,p3,p4,p5,p6,p7⟩:=k1.obj _ _ za;have zc:m' S.hp.length=some l:=(k3.ids _ (by omega)).trans (Q6 _ _ _);have zg:b=l:=by rw[zc]at zb;exact(Option.some.inj zb).symm
 rw[zg]at z7;refine⟨r3,z7,by rw[p1];cases rdy<;>simp,p2,?_⟩;generalize hO:Obj.loop { r3 with state:= .exhausted }=O;obtain⟨n1,n2⟩:=k1.set (w':=w3.putObj l O) (o':= .dead) za rfl zc (grownBy_putObj' _ _ _) (λs hs=>by
  unfold World.shape? at hs;rw[z7]at hs;cases hs) (λ_ _=>trivial)
 have hF:Fut S.hp.length w I m (w3.putObj l O) I' m':=(g2.trans (ul _) k3).trans (Nat.le_of_succ_le k2) n2;refine⟨I',m',n1,⟨z8.1,trivial,λt x hx=>?_⟩,by simp;omega,⟨hE.fut.trans hk hF,λzh=>?_,λl' hl'=>?_⟩⟩
 ·obtain⟨v,hv,hr⟩:=z8.2.2 t x hx;exact⟨v,hv,hr.mono hF (by simp;omega)⟩
 ·obtain⟨ds,d1,d2,d3⟩:=hE.defs zh;refine⟨mark++ds,by simp[d1],List.nodup_append.2 ⟨zf,d2,λx hx y hy e=>?_⟩,λD hD=>?_⟩
  ·subst e;have h1:=(z6.iw x (d3 x hy).1).1;have h2:=(z1 x hx).1;omega
  rcases zV.1 hD with hD|hD
  ·have zd:(λb=>I b\/b∈mark) D:= .inr hD;refine⟨k3.ext.sub D zd,⟨λhc=>?_,yP z6.below.size (z1 D hD).1⟩,?_⟩
   ·have h1:=(z6.iw D (hE.fut.ext.sub D hc)).1;have h2:=(z1 D hD).1;omega
   rw[World.putObj_heap_other (z1 D hD).2.2.1,k3.ext.imm D zd];exact(z1 D hD).2.2.2
  have:=d3 D hD;exact⟨hF.ext.sub D this.1,this.2.1,by rw[hF.ext.imm D this.1];exact this.2.2⟩
 obtain⟨h1,r',h2⟩:=hE.rnd l' hl';exact⟨hF.ext.sub l' h1,r',by rw[hF.ext.imm l' h1];exact h2⟩
set_option maxHeartbeats 2000000 in
def Eb {Q:Exit->AS->Prop} {g:Operand} {ps:List Tmp} {asg body:Code} {f:FuncId} {cs:List AV} (hg:rho S.sl g=some (.fn (.func f) [] cs)) {Rf:AV->List AObj->Prop}
  (hc:FC P f (.yld S.hp.length::cs) (S.hp++[.lp true none nt S.sl ps asg body]) Rf)
  (hR:∀(r:AV) (H':List AObj),Rf r H'->∃(rdy:Bool) (pend:Option Code) (zg:Nat) (sl':List (Nat×AV)) (ps':List Tmp) (z6 body':Code),H'[S.hp.length]?=some (.lp rdy pend zg sl' ps' z6 body')/\
   (match pend with
   |none=>Q .normal ⟨S.sl,H'.set S.hp.length .dead⟩
   |some c=>AWP P nt k c Q ⟨S.sl,H'.set S.hp.length .dead⟩)):AWP P nt k (.rangeFunc g ps.toArray asg body) Q S:=λC a w hst=>by
 obtain⟨I,m,z8,za,hk,hE⟩:=hst;obtain⟨vs,us,zi,e1,e2,e3,e4⟩:=(Ql za hg).fn_inv;have zj:vs= #[]:=Array.eq_empty_of_size_eq_zero (by simpa using e1);subst zj;refine wpIn_rangeFunc (F:=FW C.ro) λfnum _=>?_
 -- what entering the loop lays
 have zc:=f0j (C:=C) (fnum:=fnum) (ps:=ps) (asg:=asg) (body:=body) hE;obtain⟨l,mark,w1,r,zd,ze,zh,zk,zl,q1,q2,q3,q4,q5,q6,zm,zb⟩:=zc;have g0:=z8.push' (I':=λb=>I b\/b∈mark) ze (λ_ h=> .inl h) (λb hb=>by
  rcases hb with hb|hb
  ·exact⟨wd (z8.iw b hb).1 ze.size,.inl hb⟩
  exact⟨(zb b hb).2.1,.inr (zb b hb).1⟩) (some l) (λb hb=>by
  cases hb;exact⟨zh,zk,λhc=>by
   rcases hc with hc|hc
   ·have:=(z8.iw l hc).1;omega
   ·exact(zb l hc).2.2.1 rfl⟩) (.lp true none nt S.sl ps asg body) (λm' zn zv=>⟨l,r,rfl,zl,by rw[q1];rfl,q2,q3,q4,q5,by rw[q6];exact za.1,λt x hx=>by
   obtain⟨v,hv,hr⟩:=za.2.2 t x hx;exact⟨v,by rw[q6];exact hv,hr.mono zn (ul _)⟩⟩)
 obtain⟨g1,g2⟩:=g0;obtain⟨d,zo,zp⟩:=Cs (w:=w1) (l:=l) zi hc.1;refine⟨l,mark.map q07,w1,d,w1,f,_,w1,zd,zo,λ_ _=>trivial,zp,(λh=>(by cases h)),Zz ?_⟩;have hlen:(S.hp++[AObj.lp true none nt S.sl ps asg body]).length=S.hp.length+1:=by simp
 refine(hc.2 C.W0 C.I0 w1 _ _ (#[.func (.yield l) #[] #[]]++us) C.hE g1 (by simp at e3 |-;omega) (λi v x hv hx=>?_)).mono ?_
 ·rcases i with _|i
  ·rw[xB (by simp)]at hv;simp at hv hx;subst hv;subst hx;exact .yld _ _ (by simp) (Q6 _ _ _)
  rw[u7 (by simp)]at hv;simp at hv hx;exact(e4 i v x hv hx).mono g2 (by simp)
 rintro e w3 ⟨v,rv,H',I',m',zq,rfl,k1,k2,k3,k4⟩;rw[hlen]at k2 k3;obtain⟨rdy,pend,zg,sl',ps',z6,body',zr,z1⟩:=hR rv H' zq;obtain⟨r3,zt,zf,zu,z7⟩:=y1q z8 za hk hE ze zh zm zb g2 k1 k2 k3 zr;refine⟨pend,_,(run_endLoop zt zf).trans (congrArg (λx=>Result.ok x _) zu),?_⟩;cases pend with
 |none=>exact⟨_,z1,z7⟩
 |some c=>exact z1 C _ _ z7
end
end
section
open Go.Sort
def PVR.of_val{w:World}{I:Nat->Prop}{u:Value}{x:AV}(hx:x.val=some u):PVR w I u x:=by
 cases x<;>simp[AV.val]at hx<;>subst hx
 ·exact .bool _
 ·exact .int _ _
 exact .str _
structure RowOf (k:Nat) (xs:List AV) (F:Array Value):Prop where
 size:F.size=xs.length * k
 width:∀x∈xs,x.cells.length=k
 cell:∀(i:Nat) (x:AV),xs[i]?=some x->∀(j:Nat) (y:AV),x.cells[j]?=some y->y.val=some F[i * k+j]!
section
variable {W0:World} {I0:Nat->Prop} {w:World} {I:Nat->Prop} {m:Nat->Option Nat} {H:List AObj} {p b:Nat} {e:TypeId} {k:Nat} {xs:List AV} {F:Array Value}
def x1n(z6:WS W0 I0 w I m H)(ho:H[p]?=some (.arr e k xs))(hm:m p=some b)(hF:RowOf k xs F):Holds id w b 0 F/\b<w.heap.size:=by
 obtain⟨_,_,hb⟩:=z6.own p _ b ho rfl hm;refine⟨λj hj=>?_,hb⟩;rcases z6.obj p _ ho with⟨e1,_⟩|⟨b',cap,vs,z7,hh,q1,q2,q3,q4,hr⟩
 ·rw[hm]at e1;cases e1
 obtain rfl:b=b':=by rw[hm]at z7;exact Option.some.inj z7
 have hk:0<k:=by
  rcases wY k with h|h
  ·rw[hF.size,h]at hj;simp at hj
  exact h
 have z8:j<xs.length * k:=by rw[<-hF.size];exact hj
 have hi:j / k<xs.length:=Nat.div_lt_of_lt_mul (by rwa [tl]at z8);have hc:=hF.width _ (zL hi);have z1:j % k<(xs[j / k]).cells.length:=by rw[hc];exact sC _ hk
 have za:j / k * k+j % k=j:=by rw[tl];exact se _ _
 obtain⟨v,hv,hp⟩:=hr (j / k) _ (zI hi) (j % k) _ (zI z1);have:=hp.val (hF.cell _ _ (zI hi) _ _ (zI z1));rw[za]at hv this;subst this;simp[World.cell?,World.frozen?,hh,hv]
def y1r(z8:WS W0 I0 w I m H)(ho:H[p]?=some (.arr e k xs))(hm:m p=some b)(hF:RowOf k xs F){z1:List AV}{F':Array Value}(hl:z1.length=xs.length)(z7:RowOf k z1 F')(n:Nat)(os:Array Obj):
  WS W0 I0 (grow (putRow id (Sort.ahead w n) b 0 F') os) I m (H.set p (.arr e k z1))/\Fut H.length w I m (grow (putRow id (Sort.ahead w n) b 0 F') os) I m:=by
 obtain⟨_,_,hb⟩:=z8.own p _ b ho rfl hm;rcases z8.obj p _ ho with⟨e1,_⟩|⟨b',cap,vs,zb,hh,q1,q2,q3,q4,hr⟩
 ·rw[hm]at e1;cases e1
 obtain rfl:b=b':=by rw[hm]at zb;exact Option.some.inj zb
 have z6:∀c,c<w.heap.size->(grow (putRow id (Sort.ahead w n) b 0 F') os).heap[c]? =if b=c then(w.heap[c]?).map (onCells (putCells id 0 F'))else w.heap[c]? :=by intro c hc;simp only[grow,putRow,mapBlock,Sort.ahead];rw[xB (by simpa using hc),Array.getElem?_modify]
 have zc:(grow (putRow id (Sort.ahead w n) b 0 F') os).heap[b]?=some (.cells (putCells id 0 F' vs) e (0,0)):=by rw[z6 b hb,if_pos rfl,hh];rfl
 have hg:w.grownBy (grow (putRow id (Sort.ahead w n) b 0 F') os) (some b):=⟨rfl,rfl,rfl,by simp[grow,putRow,mapBlock,Sort.ahead],λc hc zd=>by
  rw[z6 c hc,if_neg (λh=>zd (by rw[h]))]⟩
 refine z8.set (o':= .arr e k z1) ho rfl hm hg (λs hs=>?_) (λm' hf=> .inr ⟨b,cap,putCells id 0 F' vs,rfl,zc,by omega,q2,by simp[putCells,q3],z7.width,λi x hx j y hy=>?_⟩)
 ·simp only[World.shape?,hh]at hs;simp only[World.shape?,zc];simpa[putCells]using hs
 have hi:i<z1.length:=(zB.1 hx).1;have hj:j<k:=by have:=z7.width x (zJ hx);rw[<-this];exact(zB.1 hy).1
 have ze:i * k+j<z1.length * k:=by have:=yI k (show i+1<=z1.length from hi);rw[yS,sh]at this;omega
 have za:i * k+j<vs.size:=by rw[q3];have:=yI k (show z1.length<=cap by omega);omega
 refine⟨F'[i * k+j]!,?_,PVR.of_val (z7.cell i x hx j y hy)⟩;have:=z7.size;simp only[putCells,Array.getElem?_mapIdx,Array.getElem?_eq_getElem za,wC];rw[if_pos (by omega)];rfl
def Hz(v:Value)(us:List Value): #[v]++us.toArray=⟨v::us⟩:=by simp
def z13 {P:Program} [Env P] {f:FuncId} {rest:List AV} (hc:T7 P f) {len:Nat} (zb:xs.length=len) (ho:H[p]?=some (.arr e k xs)) (hF:RowOf k xs F)
  (us:List Value) (hu:∀(w:World) (I:Nat->Prop) (m:Nat->Option Nat) (vs:List Value),vs.length=rest.length->(∀(i:Nat) (v:Value) (x:AV),vs[i]?=some v->rest[i]?=some x->VR w I m H.length v x)->vs=us)
  (Rx:List AV->Prop)
  (h:∀(b cap:Nat) (w:World),Holds id w b 0 F->b<w.heap.size->len<=cap->Calls P f (#[.slice (some ⟨b,0,none⟩) len cap]++us.toArray) w λen w'=>en= .returned (.tuple #[])/\∃(z1:List AV) (F':Array Value) (n:Nat) (os:Array Obj),Rx z1/\z1.length=xs.length/\RowOf k z1 F'/\w'=grow (putRow id (Sort.ahead w n) b 0 F') os)
  (h0:xs=[]->Rx []/\∀(w:World),Calls P f (#[.slice none 0 0]++us.toArray) w λen w'=>en= .returned (.tuple #[])/\w'=w):
  FC P f (.sl p k 0 len::rest) H (λr H'=>r= .tup []/\∃z1,Rx z1/\H'=H.set p (.arr e k z1)):=by
 refine⟨hc,λW0 I0 w I m vals hE z6 z8 hv=>?_⟩;rcases vals with⟨vals⟩
 cases vals with
 |nil=>simp at z8
 |cons v vs=>
  have zc:vs=us:=hu w I m vs (by simpa using z8) λi v x a b=>hv (i+1) v x (by simpa using a) (by simpa using b);subst zc;have zd:=hv 0 v _ rfl rfl;have tupR:∀(w:World) (I:Nat->Prop) (m:Nat->Option Nat) (n:Nat),VR w I m n (.tuple #[]) (.tup []):=λw I m n=> .tup _ _ rfl (λi v x a=>by simp at a);rcases zd.sl_inv with⟨b,cap,t,hb,hn,zg,hle,hmax,z7⟩|⟨hb,hn,_,ze,z7⟩|⟨_,_,hlo,_,_⟩
  ·subst z7;obtain⟨g1,g2⟩:=x1n z6 ho hb hF;have:=h b cap w g1 g2 hle;simp only[uU];refine Calls.mono (by rw[Hz]at this;exact this) ?_;rintro en w' ⟨rfl,z1,F',n,os,hx,hl,zf,rfl⟩;obtain⟨k1,k2⟩:=y1r z6 ho hb hF hl zf n os;exact⟨_,_,_,I,m,⟨rfl,z1,hx,rfl⟩,rfl,k1,by simp,k2,tupR _ _ _ _⟩
  ·subst z7;have za:xs=[]:=by cases xs with|nil=>rfl|cons=>simp at zb;omega
   obtain⟨r0,r1⟩:=h0 za;subst ze;refine Calls.mono (by have:=r1 w;rw[Hz]at this;exact this) ?_;rintro en w' ⟨rfl,rfl⟩;refine⟨_,_,H,I,m,⟨rfl,[],r0,?_⟩,rfl,z6,zS _,.refl _ _ _ _,tupR _ _ _ _⟩;rw[<-za];exact(xL λi=>by
    by_cases hi:i=p
    ·subst hi;rw[ho,zK (zB.1 ho).1]
    rw[zE (λh=>hi h.symm)])
  omega
end
end
section
open Go.RowKit
section
variable {P:Program} [Env P] {nt k:Nat} {Q:Exit->AS->Prop}
def Qw {c:Code} {sl:List (Nat×AV)} {H:List AObj} (t e sz:Nat) (ht:look sl t=some .nils)
  (h:AWP P nt k c Q ⟨put sl t (.sl H.length sz 0 0),H++[.arr e sz []]⟩):AWP P nt k c Q ⟨sl,H⟩:=λC a w hs=>by
 obtain⟨I,m,hw,z1,hk,hf⟩:=hs;obtain⟨g1,g2⟩:=hw.push (Below.refl _ _) none (λb e=>by cases e) (.arr e sz []) (λm' _ _=> .inl ⟨rfl,rfl⟩);refine h C a w ⟨I,upd m H.length none,g1,⟨z1.1,z1.2.1,λs x hx=>?_⟩,by simp at hk |-;omega,hf.trans hk g2⟩;simp only[Jf]at hx;by_cases hst:s=t
 ·rw[if_pos hst]at hx;cases hx;obtain⟨v,hv,hr⟩:=z1.2.2 t _ ht;rw[hst];have:=hr.nils_inv;subst this;exact⟨_,hv,.slnone H.length sz (by simp) (Q6 ..)⟩
 rw[if_neg hst]at hx;obtain⟨v,hv,hr⟩:=z1.2.2 s x hx;refine⟨v,hv,?_⟩;have:=hr.mono (n':=(H++[AObj.arr e sz []]).length) g2 (by simp);simpa using this
end
end
end Go.Abs
