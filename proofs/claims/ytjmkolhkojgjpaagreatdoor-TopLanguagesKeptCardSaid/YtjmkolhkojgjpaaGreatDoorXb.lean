/- Part Xb of the proof: steps on the way to the last part. No condition. -/
import Derived.Test.YtjmkolhkojgjpaaGreatDoorXa
import Derived.Lib.SliceRun
import Derived.Laws.CopyRow
import Derived.Lib.AppendZeros
import Derived.Lib.Overlaps
import Derived.ProofKit
import Derived.OpenShut
import Derived.Carry
import Derived.Deep.DeepHandedRow
import Derived.Lib.ConvBytes
import Derived.Laws.BytesString
import Derived.Laws.IdiomStrings
import Derived.Lib.BufferRead
import Derived.Lib.AppendStr
import Derived.Lib.Builder
import Derived.Lib.UnsafeStr
import Derived.Laws.Externs
import Derived.RangeFuncOwn
import Derived.RangeFuncNested
import Derived.Shelf.GgSortFunc.RowK
import Derived.Shelf.SlSortCmp.WholeK
import Derived.Shelf.SlSortCmp.NoneTotal
set_option linter.all false
open List renaming getElem?_eq_some_iff->zB,getElem?_append_left->zF,getElem?_set_self->zK,getElem?_set_ne->zE,getElem?_append_right->zH,length_set->wT,getElem?_take->xN,getElem?_range->tx,getElem?_map->zS,mem_iff_getElem?->yH,getElem_mem->zL,getElem?_eq_getElem->zI,all_eq_true->zZ,mem_of_getElem?->zJ,eq_nil_of_length_eq_zero->ws,size_toArray->xF,nil_append->vU,mem_append->zT,all_cons->uC,ext_getElem?->xL,replicate->yB,getElem?_replicate->vD,take_zero->wd,map_cons->xC,mem_map->zQ,length_map->yO,getElem?_cons_zero->wB,drop_eq_nil_of_le->tf,drop_drop->tZ,take_append_drop->xO,range'->ue,range'_succ->uk,mem_cons->zX,range_eq_range'->uD,append_nil->xG
open Nat renaming lt_of_lt_of_le->x_,add_mul->yJ,mul_le_mul_right->z_,add_comm->sh,eq_zero_or_pos->vB,mod_lt->sk,mul_comm->tl,div_add_mod->tY,le_refl->zR,zero_add->xT,zero_mul->uV,one_mul->t_,le_trans->yP,le_succ->uh
open Option renaming getD_some->wA,map_some->wG,map_eq_some_iff->zP,bind_eq_some_iff->xA
open Array renaming size_append->wC,getElem?_append_left->yT,getElem?_append_right->vC,mem_of_getElem?->ut,replicate->ur,getElem?_eq_some_iff->yS,getElem?_push->vL
open Bool renaming and_eq_true->yF
set_option maxRecDepth 100000
namespace Go.Abs
open Go
section
open Go.RowKit
section
variable {P:Program} [Env P] {T:TT} {nt k:Nat} {S:AS} {ops:Array Oper} {o:Oper} {R:AS->Prop}
section
variable {W0 w w':World} {I0 I:Nat->Prop} {m:Nat->Option Nat} {H:List AObj}
def WS.adopt (h:WS W0 I0 w I m H) {id:Nat} {o o':AObj} {b:Nat} (ho:H[id]?=some o) (hl:o.live=true) (hm:m id=some b) (hg:w.grownBy w' (some b))
  (z7:∀s,w.shape? b=some s->w'.shape? b=some s) (hO:∀m',Fut H.length w I m w' I m'->Yv w' I m' (H.length+1) (some b) o'):
  WS W0 I0 w' I (upd m H.length (some b)) (H.set id .dead++[o'])/\Fut H.length w I m w' I (upd m H.length (some b)):=by
 obtain⟨z8,z6,za⟩:=h.own id o b ho hl hm;have hid:id<H.length:=(zB.1 ho).1;have hf:Fut H.length w I m w' I (upd m H.length (some b)):=⟨⟨λ_ h=>h,λc hc=>hg.block c (h.iw c hc).1 (λe=>z6 (by injection e with e;exact e▸hc))⟩,λ_ hid=>Y4 hid,λc s hs=>by
  by_cases hcb:c=b
  ·subst hcb;exact z7 s hs
  rw[Rj (hg.block c (Gp hs) (λe=>hcb (by injection e)))];exact hs⟩
 have z1:∀(k:Nat) (p:AObj),(H.set id .dead++[o'])[k]?=some p->(k<H.length/\p= .dead)\/(k<H.length/\k≠id/\H[k]?=some p)\/(k=H.length/\p=o'):=λk p hp=>by
  rcases Nat.lt_trichotomy k H.length with h1|h1|h1
  ·rw[zF (by simpa using h1)]at hp;by_cases hk:k=id
   ·subst hk;rw[zK h1]at hp;exact .inl ⟨h1,(Option.some.inj hp).symm⟩
   rw[zE (by omega)]at hp;exact .inr (.inl ⟨h1,hk,hp⟩)
  ·subst h1;rw[zH (by simp)]at hp;simp at hp;exact .inr (.inr ⟨rfl,hp.symm⟩)
  have:=(zB.1 hp).1;simp at this;omega
 refine⟨⟨h.below.grown hg h.below.size (λk hk=>by injection hk with hk;omega),h.i0,λc hc=>⟨x_ (h.iw c hc).1 hg.size,(h.iw c hc).2⟩,λk p hp=>?_,λk p c hp lp mc=>?_,λi j oi oj c hi hj li lj mi mj=>?_⟩,hf⟩
 ·rw[List.length_append,wT,List.length_singleton];rcases z1 k p hp with⟨h1,rfl⟩|⟨h1,h2,h3⟩|⟨rfl,rfl⟩
  ·trivial
  ·rw[Y4 h1];by_cases hlp:p.live=true
   ·exact(h.obj k p h3).mono hf (by omega) (λ_ c hc=>hg.block c (h.own k p c h3 hlp hc).2.2 (λe=>h2 (by injection e with e;subst e;exact h.inj k id p o c h3 ho hlp hl hc hm)))
   exact(h.obj k p h3).mono hf (by omega) (λhl'=>absurd hl' hlp)
  rw[Q7];exact hO _ hf
 ·rcases z1 k p hp with⟨h1,rfl⟩|⟨h1,h2,h3⟩|⟨rfl,rfl⟩
  ·simp[AObj.live]at lp
  ·rw[Y4 h1]at mc;obtain⟨h3,h4,h5⟩:=h.own k p c h3 lp mc;exact⟨h3,h4,x_ h5 hg.size⟩
  rw[Q7]at mc;cases mc;exact⟨z8,z6,x_ za hg.size⟩
 rcases z1 i oi hi with⟨h1,rfl⟩|⟨h1,h2,h3⟩|⟨rfl,rfl⟩
 ·simp[AObj.live]at li
 ·rcases z1 j oj hj with⟨g1,rfl⟩|⟨g1,g2,g3⟩|⟨rfl,rfl⟩
  ·simp[AObj.live]at lj
  ·rw[Y4 h1]at mi;rw[Y4 g1]at mj;exact h.inj i j oi oj c h3 g3 li lj mi mj
  rw[Y4 h1]at mi;rw[Q7]at mj;cases mj;exact absurd (h.inj i id oi o b h3 ho li hl mi hm) h2
 rcases z1 j oj hj with⟨g1,rfl⟩|⟨g1,g2,g3⟩|⟨rfl,rfl⟩
 ·simp[AObj.live]at lj
 ·rw[Y4 g1]at mj;rw[Q7]at mi;cases mi;exact absurd (h.inj j id oj o b g3 ho lj hl mj hm) g2
 rfl
def Fk(H:List AObj):AV->Option (List AV)
 | .list ys=>some ys
 | .sl id c lo len=>match H[id]? with
  |some (.arr _ c' xs)=>if c=c'/\lo+len<=xs.length then some ((xs.drop lo).take len)else none
  |_=>none
 | .nils=>some []
 |_=>none
def Ad(hw:WS W0 I0 w I m H){v:Value}{x:AV}{ys:List AV}(hv:VR w I m H.length v x)(h:Fk H x=some ys):
  ∃(ao:Option Addr) (cap:Nat) (u:Nat->Nat->Value),v= .slice ao ys.length cap/\
   (0<ys.length->∃ad,ao=some ad/\∃c,(∀y∈ys,y.cells.length=c)/\∀i j,i<ys.length->j<c->w.cell? (ad.add (i * c+j))=some (u i j))/\
   (∀(i:Nat) (x:AV),ys[i]?=some x->∀(j:Nat) (y:AV),x.cells[j]?=some y->PVR w I (u i j) y):=by
 cases x with
 |list zs=>simp only[Fk,Option.some.injEq]at h;subst h;obtain⟨a,cap,c,u,rfl,_,_,hc,ha,hu⟩:=hv.list_inv.list_inv;exact⟨a,cap,u,rfl,λh0=>by obtain⟨ad,e,_,hcell⟩:=ha h0;exact⟨ad,e,c,hc,hcell⟩,hu⟩
 |nils=>simp only[Fk,Option.some.injEq]at h;subst h;obtain rfl:=hv.nils_inv;exact⟨none,0,λ_ _=>undef,rfl,λh0=>by simp at h0,λi x hx=>by simp at hx⟩
 |sl id c lo len=>
  simp only[Fk]at h;split at h
  ·rename_i e c' xs ho;split at h
   ·rename_i hc;obtain⟨rfl,hl⟩:=hc;simp only[Option.some.injEq]at h;subst h;have hlen:((xs.drop lo).take len).length=len:=by simp;omega
    rcases hv.sl_inv with⟨b,cap,t,hb,hn,hs,hl',hmax,rfl⟩|⟨hb,hn,rfl,rfl,rfl⟩|⟨ad,hn,hlo,rfl,rfl⟩
    ·rcases hw.obj id _ ho with⟨e1,rfl⟩|⟨b',z1,vs,z6,hh,q1,q2,q3,q4,hr⟩
     ·rw[hb]at e1;cases e1
     obtain rfl:b=b':=by rw[hb]at z6;exact Option.some.inj z6
     refine⟨_,cap,λi j=>vs.getD ((lo+i) * c+j) undef,by rw[hlen],λ_=>⟨_,rfl,c,λx hx=>q4 x (List.mem_of_mem_drop (List.mem_of_mem_take hx)),λi j hi hj=>?_⟩,λi x hx j z hz=>?_⟩
     ·rw[hlen]at hi;rw[Addr.add_lit,cell_of_row w b _ vs e (0,0) hh];simp only[yJ];have z7:(lo+i) * c+j<vs.size:=by rw[q3];have:(lo+i+1) * c<=z1 * c:=z_ c (by omega);rw[yJ (lo+i)]at this;omega
      rw[yJ]at z7;rw[show lo * c+(i * c+j)=lo * c+i * c+j by omega];simp[z7]
     rw[xN]at hx;split at hx
     ·rw[List.getElem?_drop]at hx;obtain⟨v,hv,hp⟩:=hr (lo+i) x hx j z hz;simp only[Array.getD_eq_getD_getElem?,hv,wA];exact hp
     cases hx
    ·exact⟨none,0,λ_ _=>undef,by rw[hlen],λh0=>by simp at h0,λi x hx=>by simp at hx⟩
    exact⟨some ad,0,λ_ _=>undef,by rw[hlen],λh0=>by simp at h0,λi x hx=>by simp at hx⟩
   cases h
  cases h
 |_=>simp[Fk]at h
end
def Qp(u:Nat->Nat->Value)(n c:Nat):List Value:=(List.range (n * c)).map λq=>u (q / c) (q % c)
def Qt(u:Nat->Nat->Value)(n c:Nat):(Qp u n c).length=n * c:=by simp[Qp]
def Uy(u:Nat->Nat->Value)(n c i j:Nat)(hi:i<n)(hj:j<c):(Qp u n c)[i * c+j]?=some (u i j):=by
 have z1:i * c+j<n * c:=by have:(i+1) * c<=n * c:=z_ c hi;rw[yJ]at this;omega
 have h1:(i * c+j) / c=i:=by rw[sh,Nat.add_mul_div_right _ _ (by omega),Nat.div_eq_of_lt hj];omega
 have h2:(i * c+j) % c=j:=by rw[sh,Nat.add_mul_mod_self_right,Nat.mod_eq_of_lt hj]
 simp[Qp,tx z1,h1,h2]
def Ru(u:Nat->Nat->Value)(n c q:Nat)(v:Value)(h:(Qp u n c)[q]?=some v):q<n * c/\0<c/\q / c<n/\q % c<c/\q=q / c * c+q % c/\v=u (q / c) (q % c):=by
 have z1:q<n * c:=by have:=(zB.1 h).1;rwa [Qt]at this
 have hc:0<c:=by
  rcases vB c with h0|h0
  ·subst h0;simp at z1
  exact h0
 refine⟨z1,hc,(Nat.div_lt_iff_lt_mul hc).2 z1,sk _ hc,by rw[tl];exact(tY q c).symm,?_⟩;simp only[Qp,zS,tx z1,wG,Option.some.injEq]at h;exact h.symm
def Aa(S:AS)(e:TypeId)(c:Nat):AV->Option (List AV×List AObj)
 | .nils=>some ([],S.hp)
 | .sl id c' 0 len=>match S.hp[id]? with
  |some (.arr e' c'' xs)=>if c'=c/\c''=c/\e'=e/\len=xs.length then some (xs,S.hp.set id .dead)else none
  |_=>none
 |_=>none
def N6 (hT:TOk P T) (hw:Qs ops S o=some true) {s x:Operand} {t e:TypeId} (ho:o.op= .call ⟨.builtin .append,#[s,x],#[t,t]⟩) {it ei:TI} (ht:look T t=some it) (hit:it.desc= .slice e) (he:look T e=some ei)
  (hz:ei.zero.cells.size=ei.size) (y2:0<ei.size) {sv xv:AV} (hs:rho S.sl s=some sv) (hx:rho S.sl x=some xv) {xs ys:List AV} {H1:List AObj} (hb:Aa S e ei.size sv=some (xs,H1)) (hy:Fk S.hp xv=some ys)
  (zw:∀y∈ys,y.cells.length=ei.size/\y.cells.all AV.leaf=true) (hbound:(xs.length+ys.length) * ei.bytes<=140737488355328) (hlen:xs.length+ys.length<=9223372036854775807) (hd:Wm nt o=true)
  (hR:R (({ S with hp:=H1++[.arr e ei.size (xs++ys)] }:AS).putD o.dst (.sl S.hp.length ei.size 0 (xs.length+ys.length)))):Q9 P nt k true ops o S R:=λC a w K Q hst hK=>by
 unfold OpW;rw[if_pos (hst.wanted hw)];obtain⟨I,m,zc,zr,hk,hE⟩:=hst;obtain⟨ao,cap,u,zk,hcell,zx⟩:=Ad zc (Qq zr hx) hy;have zy:=Qq zr hs;obtain⟨ti,zl,tz,ts,tb⟩:=hT.info he;have zi:=hT.und ht;rw[hit]at zi;have zm:H1.length=S.hp.length:=by
  unfold Aa at hb;split at hb
  ·simp only[Option.some.injEq,Prod.mk.injEq]at hb;rw[<-hb.2]
  ·split at hb
   ·split at hb
    ·simp only[Option.some.injEq,Prod.mk.injEq]at hb;rw[<-hb.2];simp
    cases hb
   cases hb
  cases hb
 -- what the run comes to decides all
 have fin:∀(v:Value) (w':World) (m':Nat->Option Nat),(Builtin.append_ #[t,t] o.type #[a.eval s,a.eval x]).run P w= .ok v w'->WS C.W0 C.I0 w' I m' (H1++[.arr e ei.size (xs++ys)])->Fut S.hp.length w I m w' I m'->
   VR w' I m' (S.hp.length+1) v (.sl S.hp.length ei.size 0 (xs.length+ys.length))->wpA P o a w K Q:=λv w' m' z6 g1 g2 g3=>by
  unfold wpA;have:(execOp a.eval o).run P w= .ok (.value v) w':=by simp[execOp,ho,resolve,invoke,builtin,z6]
  rw[this];exact hK _ _ w' hR (St.value zr hk hE g1 g2 (by simp[zm]) (Qm hd) (by simpa[zm]using g3)) (λe=>by cases e)
 -- nothing is appended
 have zero:ys=[]->∀(b0:Option Addr) (n0 c0:Nat),n0<=c0->a.eval s= .slice b0 n0 c0->(Builtin.append_ #[t,t] o.type #[a.eval s,a.eval x]).run P w= .ok (.slice b0 n0 c0) w:=λz8 b0 n0 c0 hle zn=>by rw[zn,zk,z8];cases ao<;>cases b0<;>simp[Builtin.append_,run_underlying zi,sizeOf,typeInfo,zl,Builtin.lenOf,Builtin.firstCells,hle,loadCells,loadCellsFrom,storeCells]
 -- a new row
 have newrow:∀(z7:Nat) (cs:Array Value),xs.length+ys.length<=z7->z7<=maxLen->cs.size=z7 * ei.size->
   (∀(i:Nat) (z:AV),(xs++ys)[i]?=some z->z.cells.length=ei.size/\∀(j:Nat) (y:AV),z.cells[j]?=some y->∃v,cs[i * ei.size+j]?=some v/\PVR w I v y)->
   (Builtin.append_ #[t,t] o.type #[a.eval s,a.eval x]).run P w= .ok (.slice (some ⟨w.heap.size,0,none⟩) (xs.length+ys.length) z7) (w.drew.alloc (.cells cs e))->WS C.W0 C.I0 w I m H1->wpA P o a w K Q:=λz7 cs h1 h2 h3 h4 z6 zo=>by
  have y3:Below w.heap.size w (w.drew.alloc (.cells cs e)):=(Below.refl _ _).drew.alloc (zR _) _;obtain⟨g1,g2⟩:=zo.push y3 (some w.heap.size) (λb e=>by injection e with e;subst e;simp) (.arr e ei.size (xs++ys)) (λm' hf hm=> .inr ⟨w.heap.size,z7,cs,rfl,heap_alloc_new w.drew _,by simpa using h1,h2,h3,
   λz zd=>by obtain⟨i,hi⟩:=yH.1 zd;exact(h4 i z hi).1,λi z hi j y hy=>by obtain⟨v,q1,q2⟩:=(h4 i z hi).2 j y hy;exact⟨v,q1,q2.mono hf.ext⟩⟩)
  rw[zm]at g1 g2;refine fin _ _ _ z6 g1 g2 ?_;have:=VR.sl (w:=w.drew.alloc (.cells cs e)) (I:=I) (m:=upd m S.hp.length (some w.heap.size)) (n:=S.hp.length+1) S.hp.length ei.size 0 (xs.length+ys.length) z7 w.heap.size e (by omega) (Q7 _ _ _)
   (by have:=heap_alloc_new w.drew (.cells cs e);simp only[World.size_drew]at this;simp only[World.shape?,this,h3,xT]) h1 (by omega)
  simpa using this
 have zg:∀y∈ys,y.cells.length=ei.size:=λy hy=>(zw y hy).1;have news:0<ys.length->∃ad,ao=some ad/\∀(q:Nat) (v:Value),(Qp u ys.length ei.size)[q]?=some v->w.cell? (ad.add q)=some v:=λh0=>by
  obtain⟨ad,e1,c,h1,h2⟩:=hcell h0;have hc:c=ei.size:=by rw[<-h1 _ (zL h0),zg _ (zL h0)]
  subst hc;refine⟨ad,e1,λq v hq=>?_⟩;obtain⟨_,_,q1,q2,q3,rfl⟩:=Ru _ _ _ _ _ hq;have:=h2 _ _ q1 q2;rw[<-q3]at this;exact this
 have one:∀v∈Qp u ys.length ei.size,v.oneCell'=true:=λv hv=>by obtain⟨q,hq⟩:=yH.1 hv;obtain⟨_,_,q1,q2,q3,rfl⟩:=Ru _ _ _ _ _ hq;have y4:ys[q / ei.size]?=some ys[q / ei.size]:=zI q1;have yb:=zg _ (zL q1);have zz:(ys[q / ei.size]).cells[q % ei.size]?=some ((ys[q / ei.size]).cells[q % ei.size]'(by omega)):=zI (by omega);exact(VR.pure (m:=m) (n:=0) (zx _ _ y4 _ _ zz)).oneCell (zZ.1 (zw _ (zL q1)).2 _ (zJ zz))
 have yrel:∀(i:Nat) (z:AV),ys[i]?=some z->∀(j:Nat) (y:AV),z.cells[j]?=some y->(Qp u ys.length ei.size)[i * ei.size+j]?=some (u i j)/\PVR w I (u i j) y:=λi z zd j y hy=>by have hi:=(zB.1 zd).1;have hj:=(zB.1 hy).1;rw[zg z (zJ zd)]at hj;exact⟨Uy _ _ _ _ _ hi hj,zx i z zd j y hy⟩
 have capw:∀zp,xs.length+ys.length<=grownCap w (xs.length+ys.length) zp e/\grownCap w (xs.length+ys.length) zp e<=maxLen:=λzp=>
  ⟨grownCap_ge _ _ _ _,grownCap_le_maxLen w _ zp e (by unfold maxLen;omega)⟩
 have fromNone:a.eval s= .slice none 0 0->xs=[]->WS C.W0 C.I0 w I m H1->wpA P o a w K Q:=λzn y5 zo=>by
  subst y5;rcases vB ys.length with h0|h0
  ·have z8:=ws h0;have z6:=zero z8 none 0 0 (zR _) zn;obtain⟨g1,g2⟩:=zo.push (Below.refl _ _) none (λb e=>by cases e) (.arr e ei.size ([]++ys)) (λm' _ _=> .inl ⟨rfl,by simp[z8]⟩);rw[zm]at g1 g2;refine fin _ _ _ z6 g1 g2 ?_;rw[h0];exact .slnone _ _ (by omega) (Q7 _ _ _)
  obtain⟨ad,rfl,za⟩:=news h0;have z6:=run_append_nil (P:=P) w t o.type e ti ei.zero zi zl tz ad ys.length cap (Qp u ys.length ei.size) (by rw[Qt,ts]) za h0 (by simp at hlen;omega) (by rw[tb];simp at hbound;omega);obtain⟨c1,c2⟩:=capw 0;simp only[List.length_nil,xT]at c1 c2;refine newrow (grownCap w ys.length 0 e) _ (by simpa using c1) c2 ?_ ?_ (by rw[zn,zk];simpa using z6) zo
  ·simp only[wC,xF,Qt,size_zeroCells,hz,<-yJ]
   congr 1;omega
  intro i z hi;simp only[vU]at hi;refine⟨zg z (zJ hi),λj y hy=>?_⟩;obtain⟨q1,q2⟩:=yrel i z hi j y hy;exact⟨_,by rw[yT (by simpa using(zB.1 q1).1)];simpa using q1,q2⟩
 unfold Aa at hb;split at hb
 ·simp only[Option.some.injEq,Prod.mk.injEq]at hb;obtain⟨rfl,rfl⟩:=hb;exact fromNone zy.nils_inv rfl zc
 ·rename_i id c' len;split at hb
  ·rename_i e' c'' z1 zq;split at hb
   ·rename_i hc;obtain⟨rfl,rfl,rfl,rfl⟩:=hc;simp only[Option.some.injEq,Prod.mk.injEq]at hb;obtain⟨rfl,rfl⟩:=hb;have zb:=zc.kill id;rcases zy.sl_inv with⟨b,cp,t',hb,hn,zt,hl',hmax,zh⟩|⟨hb,hn,_,yc,zh⟩|⟨ad,hn,hlo,_,_⟩
    ·rcases zc.obj id _ zq with⟨e1,_⟩|⟨b',y6,vs,zj,hh,q1,q2,q3,q4,hr⟩
     ·rw[hb]at e1;cases e1
     obtain rfl:b=b':=by rw[hb]at zj;exact Option.some.inj zj
     have y7:cp=y6:=by
      have:w.shape? b=some (e',vs.size):=by simp[World.shape?,hh]
      rw[this]at zt;simp only[Option.some.injEq,Prod.mk.injEq,xT,q3]at zt;exact(Nat.eq_of_mul_eq_mul_right y2 zt.2).symm
     subst y7;simp only[uV]at zh;have xrel:∀(i:Nat) (z:AV),z1[i]?=some z->∀j,j<ei.size->i * ei.size+j<z1.length * ei.size:=λi z hi j hj=>by have:(i+1) * ei.size<=z1.length * ei.size:=z_ _ (zB.1 hi).1;rw[yJ]at this;omega
     have y8:z1.length * ei.size<=vs.size:=by rw[q3];exact z_ _ q1
     have y0:∀(w':World),w'.shape? b=some (e',cp * ei.size)->z1.length+ys.length<=cp->VR w' I (upd m S.hp.length (some b)) (S.hp.length+1) (.slice (some ⟨b,0,none⟩) (z1.length+ys.length) cp) (.sl S.hp.length ei.size 0 (z1.length+ys.length)):=λw' y9 hle=>by have:=VR.sl (w:=w') (I:=I) (m:=upd m S.hp.length (some b)) (n:=S.hp.length+1) S.hp.length ei.size 0 (z1.length+ys.length) cp b e' (by omega) (Q7 _ _ _) (by simpa using y9) hle (by omega);simpa using this
     rcases vB ys.length with h0|h0
     ·have z8:=ws h0;have z6:=zero z8 _ _ _ hl' zh;obtain⟨g1,g2⟩:=zc.adopt (w':=w) (o':= .arr e' ei.size (z1++ys)) zq rfl hb (World.grownBy.refl _ _) (λ_ h=>h) (λm' hf=> .inr ⟨b,cp,vs,rfl,hh,by simp[z8,q1],q2,q3,by simpa[z8]using q4,by simpa[z8]using hr⟩);refine fin _ _ _ z6 g1 g2 ?_;have:=y0 w (by simp[World.shape?,hh,q3]) (by omega);rw[h0]at this |-;exact this
     obtain⟨ad,rfl,za⟩:=news h0;by_cases hroom:z1.length+ys.length<=cp
     ·have ze:z1.length * ti.size+(Qp u ys.length ei.size).length<=vs.size:=by rw[Qt,ts,q3,<-yJ];exact z_ _ hroom
      have z6:=run_append_room (P:=P) w t o.type e' ti zi zl b z1.length cp vs hh ad ys.length cap (Qp u ys.length ei.size) (by rw[Qt,ts]) za one hroom ze;rw[ts]at z6 ze;have zu:(vs.toList.take (z1.length * ei.size)++Qp u ys.length ei.size++vs.toList.drop (z1.length * ei.size+(Qp u ys.length ei.size).length)).toArray=spl vs (z1.length * ei.size) (Qp u ys.length ei.size).toArray:=by simp[spl]
      rw[zu]at z6;have y1:z1.length * ei.size+(Qp u ys.length ei.size).toArray.size<=vs.size:=by simpa using ze
      have zf:=Ya vs (z1.length * ei.size) (Qp u ys.length ei.size).toArray y1;obtain⟨g1,g2⟩:=zc.adopt (o':= .arr e' ei.size (z1++ys)) zq rfl hb (Ey w b (spl vs (z1.length * ei.size) (Qp u ys.length ei.size).toArray)) (Rt hh zf)
       (λm' hf=> .inr ⟨b,cp,_,rfl,setRow_heap w b vs _ e' _ hh,by simpa using hroom,q2,by rw[zf,q3],λz zd=>by
         rcases zT.1 zd with h1|h1
         ·exact q4 z h1
         ·exact zg z h1,λi z hi j y hy=>by
         rw[Dt _ _ _ _ y1];by_cases hix:i<z1.length
         ·rw[zF hix]at hi;have hj:j<ei.size:=by have:=(zB.1 hy).1;rw[q4 z (zJ hi)]at this;exact this
          have:=xrel i z hi j hj;rw[if_neg (by omega)];obtain⟨v,p1,p2⟩:=hr i z hi j y hy;exact⟨v,p1,p2.mono hf.ext⟩
         rw[zH (by omega)]at hi;obtain⟨p1,p2⟩:=yrel _ z hi j y hy;have p3:=(zB.1 p1).1;have p4:i * ei.size=z1.length * ei.size+(i - z1.length) * ei.size:=by rw[<-yJ];congr 1;omega
         rw[if_pos (by simp only[xF];omega)];exact⟨_,by rw[show i * ei.size+j - z1.length * ei.size=(i - z1.length) * ei.size+j by omega];simpa using p1,p2.mono hf.ext⟩⟩)
      refine fin _ _ _ (by rw[zh,zk];exact z6) g1 g2 (y0 _ ?_ hroom);simp[World.shape?,setRow_heap w b vs _ e' _ hh,zf,q3]
     have holds:∀(j:Nat) (v:Value),(vs.toList.take (z1.length * ei.size))[j]?=some v->w.cell? ((⟨b,0,none⟩:Addr).add j)=some v:=λj v hj=>by
      rw[Addr.add_lit,xT,cell_of_row w b j vs e' (0,0) hh];rw[xN]at hj;split at hj
      ·simpa using hj
      cases hj
     have z6:=run_append_grow (P:=P) w t o.type e' ti ei.zero zi zl tz ⟨b,0,none⟩ z1.length cp (vs.toList.take (z1.length * ei.size)) (by rw[ts];simp;omega) holds ad ys.length cap (Qp u ys.length ei.size) (by rw[Qt,ts]) za (by omega) (by omega)
      (growslice_fits (by omega) (by rw[tb];exact hbound))
     obtain⟨c1,c2⟩:=capw cp;refine newrow _ _ c1 c2 ?_ ?_ (by rw[zh,zk];exact z6) zb
     ·have:(vs.toList.take (z1.length * ei.size)).length=z1.length * ei.size:=by simp;omega
      simp only[wC,xF,Qt,size_zeroCells,hz,this,<-yJ]
      congr 1;omega
     intro i z hi;have zv:(vs.toList.take (z1.length * ei.size)).length=z1.length * ei.size:=by simp;omega
     by_cases hix:i<z1.length
     ·rw[zF hix]at hi;refine⟨q4 z (zJ hi),λj y hy=>?_⟩;have hj:j<ei.size:=by have:=(zB.1 hy).1;rw[q4 z (zJ hi)]at this;exact this
      have ya:=xrel i z hi j hj;obtain⟨v,p1,p2⟩:=hr i z hi j y hy;refine⟨v,?_,p2⟩;rw[yT (by simp;omega),yT (by simp;omega),List.getElem?_toArray,xN,if_pos ya];simpa using p1
     rw[zH (by omega)]at hi;refine⟨zg z (zJ hi),λj y hy=>?_⟩;obtain⟨p1,p2⟩:=yrel _ z hi j y hy;have p3:=(zB.1 p1).1;have p4:i * ei.size=z1.length * ei.size+(i - z1.length) * ei.size:=by rw[<-yJ];congr 1;omega
     refine⟨_,?_,p2⟩;rw[yT (by simp only[wC,xF,zv];omega),vC (by simp only[xF,zv];omega)];simp only[xF,zv];rw[show i * ei.size+j - z1.length * ei.size=(i - z1.length) * ei.size+j by omega];simpa using p1
    ·rcases zc.obj id _ zq with⟨_,e1⟩|⟨b',_,_,zj,_⟩
     ·exact fromNone zh e1 zb
     rw[hb]at zj;cases zj
    omega
   cases hb
  cases hb
 cases hb
end
end
section
open Go.RowKit
section
variable {P:Program} [Env P] {T:TT} {nt k:Nat} {S:AS} {Q:Exit->AS->Prop}
def Gv(P:Program)[Env P](T:TT)(nt k:Nat)(ops:Array Oper)(Q:AS->Prop):List Oper->AS->Prop
 |[],S=>Q S
 |o::l,S=>if A8 o.op then(match Kv T ops S o with
   |some S'=>Gv P T nt k ops Q l S'
   |none=>Q9 P nt k true ops o S (Gv P T nt k ops Q l))
  else Q9 P nt k true ops o S (Gv P T nt k ops Q l)
def Zg(hT:TOk P T){ops:Array Oper}{R:AS->Prop}{C:Cx P}:∀(l:List Oper) (S:AS) (a:Act) (w:World),Uj nt l=true->Gv P T nt k ops R l S->St C nt k S a w->U3 P ops (x1a C nt k R) l a w
 |[],S,a,w,_,h,hs=>w0i ⟨S,h,hs⟩
 |o::l,S,a,w,hd,h,hs=>by
  simp only[Uj,uC,yF]at hd;unfold Gv at h;have key:Q9 P nt k true ops o S (Gv P T nt k ops R l):=by
   split at h
   ·split at h
    ·rename_i S' z1;exact K7 hT z1 hd.1 (λ_=>rfl) (by assumption) h
    exact h
   exact h
  have:=key C a w (U3 P ops (x1a C nt k R) l) (x1a C nt k R) hs (λS' a' w' hR z6 _=>Zg hT l S' a' w' hd.2 hR z6);unfold U3;exact this
def A2(hT:TOk P T){id:Nat}{l:List Oper}(hd:Uj nt l=true)(h:Gv P T nt k l.toArray (Q .normal) l S):AWP P nt k (.region id l.toArray false) Q S:=λC a w hs=>
 Cj (Kt (Zg hT l S a w hd h hs))
def Qi {α:Type} {c:Code} (F:α->AS) (Inv:α->Prop) (mu:α->Nat)
  (h:∀x,Inv x->(∀y,Inv y->mu y<mu x->P1 P nt k c Q (F y))->AWP P nt k c (P0 (P1 P nt k c Q) Q) (F x)):∀x,Inv x->P1 P nt k c Q (F x):=by
 have key:∀n x,mu x=n->Inv x->P1 P nt k c Q (F x):=by
  intro n;induction n using Nat.strongRecOn with
  |_ n ih=>exact λx hx hI=>q0v (h x hI λy hy z1=>ih (mu y) (by omega) y rfl hy)
 exact λx hI=>key _ x rfl hI
def Wd {c:Code} {sl sl':List (Nat×AV)} {H H':List AObj} (G:List AObj) (h:P1 P nt k c Q ⟨sl',H'⟩) (hH:H=H'++G) (hk:k<=H'.length) (h0:Ht sl sl')
  (hu:sl'.all (λp=>p.2.under H'.length)=true) (z1:H'.all (T7 H'.length)=true):P1 P nt k c Q ⟨sl,H⟩:=by
 subst hH;exact Qc (sl':=sl') (K6 G h hk hu z1) h0
end
def v0p(g:Bool)(b:Bool):deref g (.bool b)=some (.bool b):=rfl
def k0b(H:List AObj)(b:Bool):Q8 H (.bool b)=some (.bool b):=by simp[Q8,AV.pure]
def v0w(H:List AObj)(b:Bool):Wu H (.bool b)=some (.bool b):=by simp[Wu,Q8,AV.pure]
def x0v(H:List AObj)(b:Bool):En H (.bool b)=some (.bool b):=by simp[En,Wu,Q8,AV.pure]
def j0d(H:List AObj)(b:Bool):Ry H (.bool b)=some (.bool b):=by simp[Ry,En,Wu,Q8,AV.pure]
def y1a(b:Bool):AV.nrm1 (.bool b)=(.bool b):=rfl
def u1h(b:Bool):AV.nrm (.bool b)=(.bool b):=rfl
def z1e(g:Bool)(k:IntKind)(n:Int):deref g (.int k n)=some (.int k n):=rfl
def q13(H:List AObj)(k:IntKind)(n:Int):Q8 H (.int k n)=some (.int k n):=by simp[Q8,AV.pure]
def d0a(H:List AObj)(k:IntKind)(n:Int):Wu H (.int k n)=some (.int k n):=by simp[Wu,Q8,AV.pure]
def g0t(H:List AObj)(k:IntKind)(n:Int):En H (.int k n)=some (.int k n):=by simp[En,Wu,Q8,AV.pure]
def w14(H:List AObj)(k:IntKind)(n:Int):Ry H (.int k n)=some (.int k n):=by simp[Ry,En,Wu,Q8,AV.pure]
def j1k(k:IntKind)(n:Int):AV.nrm1 (.int k n)=(.int k n):=rfl
def y2p(k:IntKind)(n:Int):AV.nrm (.int k n)=(.int k n):=rfl
def w1m(g:Bool)(s:List UInt8):deref g (.str s)=some (.str s):=rfl
def z1z(H:List AObj)(s:List UInt8):Q8 H (.str s)=some (.str s):=by simp[Q8,AV.pure]
def q10(H:List AObj)(s:List UInt8):Wu H (.str s)=some (.str s):=by simp[Wu,Q8,AV.pure]
def c01(H:List AObj)(s:List UInt8):En H (.str s)=some (.str s):=by simp[En,Wu,Q8,AV.pure]
def d03(H:List AObj)(s:List UInt8):Ry H (.str s)=some (.str s):=by simp[Ry,En,Wu,Q8,AV.pure]
def v18(s:List UInt8):AV.nrm1 (.str s)=(.str s):=rfl
def y2x(s:List UInt8):AV.nrm (.str s)=(.str s):=rfl
def u0e(g:Bool)(s:List AV):deref g (.list s)=some (.list s):=rfl
def u0k(H:List AObj)(s:List AV):Q8 H (.list s)=some (.list s):=by simp[Q8,AV.pure]
def k0q(H:List AObj)(s:List AV):Wu H (.list s)=some (.list s):=by simp[Wu,Q8,AV.pure]
def v08(H:List AObj)(s:List AV):En H (.list s)=some (.list s):=by simp[En,Wu,Q8,AV.pure]
def v0q(H:List AObj)(s:List AV):Ry H (.list s)=some (.list s):=by simp[Ry,En,Wu,Q8,AV.pure]
def u1y(s:List AV):AV.nrm1 (.list s)=(.list s):=rfl
def g1e(s:List AV):AV.nrm (.list s)=(.list s):=rfl
def u0a(g:Bool):deref g .nils=some .nils:=rfl
def k0l(g:Bool):deref g .nilp=some .nilp:=rfl
def u0c(H:List AObj):Q8 H .nilp=some .nilp:=by simp[Q8,AV.pure]
def k0o(H:List AObj):Wu H .nilp=some .nilp:=by simp[Wu,Q8,AV.pure]
def v0e(H:List AObj):En H .nilp=some .nilp:=by simp[En,Wu,Q8,AV.pure]
def k0x(H:List AObj):Ry H .nilp=some .nilp:=by simp[Ry,En,Wu,Q8,AV.pure]
def f0v:AV.nrm1 .nilp= .nilp:=rfl
def x19:AV.nrm .nilp= .nilp:=rfl
def x0z(g:Bool):deref g .nilf=some .nilf:=rfl
def k03(g:Bool):deref g .nili=some .nili:=rfl
def w1f(g:Bool):deref g .ifc=some .ifc:=rfl
def u0n(H:List AObj):Q8 H .nilf=some .nilf:=by simp[Q8,AV.pure]
def k00(H:List AObj):Q8 H .nili=some .nili:=by simp[Q8,AV.pure]
def q1o(H:List AObj):Q8 H .ifc=some .ifc:=by simp[Q8,AV.pure]
def k0e(H:List AObj):Wu H .nilf=some .nilf:=by simp[Wu,Q8,AV.pure]
def k07(H:List AObj):Wu H .nili=some .nili:=by simp[Wu,Q8,AV.pure]
def d0h(H:List AObj):Wu H .ifc=some .ifc:=by simp[Wu,Q8,AV.pure]
def k0g(H:List AObj):En H .nilf=some .nilf:=by simp[En,Wu,Q8,AV.pure]
def x0w(H:List AObj):En H .nili=some .nili:=by simp[En,Wu,Q8,AV.pure]
def j05(H:List AObj):En H .ifc=some .ifc:=by simp[En,Wu,Q8,AV.pure]
def x06(H:List AObj):Ry H .nilf=some .nilf:=by simp[Ry,En,Wu,Q8,AV.pure]
def u05(H:List AObj):Ry H .nili=some .nili:=by simp[Ry,En,Wu,Q8,AV.pure]
def q1u(H:List AObj):Ry H .ifc=some .ifc:=by simp[Ry,En,Wu,Q8,AV.pure]
def f0u:AV.nrm1 .nilf= .nilf:=rfl
def j00:AV.nrm1 .nili= .nili:=rfl
def j1j:AV.nrm1 .ifc= .ifc:=rfl
def u1l:AV.nrm .nilf= .nilf:=rfl
def k1b:AV.nrm .nili= .nili:=rfl
def w2r:AV.nrm .ifc= .ifc:=rfl
def u0s(g:Bool)(s:List AV):deref g (.iptr s)=some (.iptr s):=rfl
def v0l(H:List AObj)(s:List AV):Q8 H (.iptr s)=some (.iptr s):=by simp[Q8,AV.pure]
def k04(H:List AObj)(s:List AV):Wu H (.iptr s)=some (.iptr s):=by simp[Wu,Q8,AV.pure]
def k0n(H:List AObj)(s:List AV):En H (.iptr s)=some (.iptr s):=by simp[En,Wu,Q8,AV.pure]
def v0h(H:List AObj)(s:List AV):Ry H (.iptr s)=some (.iptr s):=by simp[Ry,En,Wu,Q8,AV.pure]
def f0q(s:List AV):AV.nrm1 (.iptr s)=(.iptr s):=rfl
def g1c(s:List AV):AV.nrm (.iptr s)=(.iptr s):=rfl
def c0g(g:Bool):deref g .top=some .top:=rfl
def j09(H:List AObj):Q8 H .top=some .top:=by simp[Q8,AV.pure]
def d0u(H:List AObj):Wu H .top=some .top:=by simp[Wu,Q8,AV.pure]
def d0o(H:List AObj):En H .top=some .top:=by simp[En,Wu,Q8,AV.pure]
def d07(H:List AObj):Ry H .top=some .top:=by simp[Ry,En,Wu,Q8,AV.pure]
def u1d:AV.nrm1 .top= .top:=rfl
def w2j:AV.nrm .top= .top:=rfl
def d00(g:Bool)(s:List AV):deref g (.agg s)=some (.agg s):=rfl
def c04(g:Bool)(s:List AV):deref g (.tup s)=some (.tup s):=rfl
def j12(g:Bool)(f:Fn)(s t:List AV):deref g (.fn f s t)=some (.fn f s t):=rfl
def v0u(g:Bool)(a:Nat):deref g (.mref a)=some (.mref a):=rfl
def d0n(a:Nat):AV.pure (.mref a)=false:=by simp[AV.pure]
def v0o(m a:Nat):AV.under m (.mref a)=decide (a<m):=by simp[AV.under]
def f0m(g:Bool)(a:Nat):deref g (.yld a)=some (.yld a):=rfl
def k1y(a:Nat):AV.pure (.yld a)=false:=by simp[AV.pure]
def w1c(m a:Nat):AV.under m (.yld a)=decide (a<m):=by simp[AV.under]
def k0h(g:Bool)(a b:Nat):deref g (.vptr a b)=some (.vptr a b):=rfl
def z1t(g:Bool)(a b c d:Nat):deref g (.ept a b c d)=some (.ept a b c d):=rfl
def v1q(g:Bool)(a b c d:Nat):deref g (.sl a b c d)=some (.sl a b c d):=rfl
def Oq(g p:Bool)(x:AV):deref g (.opt p x)=if(!g || p)=true then some x else none:=rfl
def u08(H:List AObj):Q8 H .nils=some (.list []):=rfl
def x0x(H:List AObj):Wu H .nils=some (.list []):=rfl
def k0k(H:List AObj):En H .nils=some (.list []):=rfl
def u00(H:List AObj):Ry H .nils=some (.list []):=rfl
def g06:AV.nrm1 .nils= .list []:=rfl
def x1z:AV.nrm .nils= .list []:=rfl
def j1u(s:List AV):AV.nrm1 (.agg s)= .agg s:=rfl
def c14(f:Fn)(s t:List AV):AV.nrm1 (.fn f s t)= .fn f s t:=rfl
def c17(s:List AV):AV.nrm (.agg s)= .agg (s.map AV.nrm1):=rfl
def v2u(f:Fn)(s t:List AV):AV.nrm (.fn f s t)= .fn f (s.map AV.nrm1) (t.map AV.nrm1):=rfl
def g0w(H:List AObj)(s:List AV):Q8 H (.agg s)=if s.all AV.pure=true then some (.agg s)else none:=by rw[Q8];simp[AV.pure];all_goals simp
def g05(H:List AObj)(s:List AV):Wu H (.agg s)=Q8 H (.agg s):=rfl
def y1n(H:List AObj)(s:List AV):En H (.agg s)=(Q0 (s.map (Wu H))).map .agg:=rfl
def f0d(H:List AObj)(s:List AV):Ry H (.agg s)=(Q0 (s.map (Wu H))).map .agg:=rfl
def d0j(H:List AObj)(s:List AV):Ry H (.tup s)=(Q0 (s.map (En H))).map .tup:=rfl
def v1i(H:List AObj)(id c lo len:Nat):Q8 H (.sl id c lo len)=match H[id]? with
  |some (.arr _ c' xs)=>if c=c'/\lo+len<=xs.length then some (.list ((xs.drop lo).take len))else none
  |_=>none:=rfl
def j18(H:List AObj)(id c lo len:Nat):Wu H (.sl id c lo len)=Q8 H (.sl id c lo len):=rfl
def v1h(H:List AObj)(id c lo len:Nat):En H (.sl id c lo len)=Q8 H (.sl id c lo len):=rfl
def x18(H:List AObj)(id c lo len:Nat):Ry H (.sl id c lo len)=Q8 H (.sl id c lo len):=rfl
def x0r(H:List AObj)(id off:Nat):Wu H (.vptr id off)=match H[id]? with
  |some (.vars cs)=>(Q0 (cs.map (Q8 H))).map λys=> .iptr (ys.drop off)
  |_=>none:=rfl
def x07(H:List AObj)(id off:Nat):En H (.vptr id off)=Wu H (.vptr id off):=rfl
def x01(H:List AObj)(id off:Nat):Ry H (.vptr id off)=Wu H (.vptr id off):=rfl
def x1f(H:List AObj)(f:Fn)(xs ys:List AV):En H (.fn f xs ys)=match Q0 (xs.map (Wu H)),Q0 (ys.map (Wu H))with
  |some xs,some ys=>some (.fn f xs ys)
  |_,_=>none:=rfl
def j13(H:List AObj)(f:Fn)(xs ys:List AV):Ry H (.fn f xs ys)=En H (.fn f xs ys):=rfl
def x1h(cs:List AV):AV.pure (.agg cs)=cs.all AV.pure:=by rw[AV.pure];simp
def k1s(cs:List AV):AV.pure (.tup cs)=cs.all AV.pure:=by rw[AV.pure];simp
def q2z(f:Fn)(xs ys:List AV):AV.pure (.fn f xs ys)=(xs.all AV.pure && ys.all AV.pure):=by rw[AV.pure];simp
def q11(b:Bool):AV.pure (.bool b)=true:=by simp[AV.pure]
def x1u(k:IntKind)(n:Int):AV.pure (.int k n)=true:=by simp[AV.pure]
def v15(s:List UInt8):AV.pure (.str s)=true:=by simp[AV.pure]
def d0l(s:List AV):AV.pure (.list s)=true:=by simp[AV.pure]
def c0c:AV.pure .nils=true:=by simp[AV.pure]
def c0k:AV.pure .nilp=true:=by simp[AV.pure]
def j0p:AV.pure .nilf=true:=by simp[AV.pure]
def w1e:AV.pure .nili=true:=by simp[AV.pure]
def g1d:AV.pure .ifc=true:=by simp[AV.pure]
def x1i:AV.pure .top=true:=by simp[AV.pure]
def f0z(s:List AV):AV.pure (.iptr s)=true:=by simp[AV.pure]
def z1y(a b:Nat):AV.pure (.vptr a b)=false:=by simp[AV.pure]
def j1p(a b c d:Nat):AV.pure (.ept a b c d)=false:=by simp[AV.pure]
def c1r(a b c d:Nat):AV.pure (.sl a b c d)=false:=by simp[AV.pure]
def flat_agg(cs:List AV):AV.flat (.agg cs)=cs.all AV.flat:=by rw[AV.flat];simp
def j1r(cs:List AV):AV.flat (.tup cs)=cs.all AV.flat:=by rw[AV.flat];simp
def g0x(b:Bool):AV.flat (.bool b)=true:=by simp[AV.flat]
def k1i(k:IntKind)(n:Int):AV.flat (.int k n)=true:=by simp[AV.flat]
def v13(s:List UInt8):AV.flat (.str s)=true:=by simp[AV.flat]
def w17(n:Nat)(cs:List AV):AV.under n (.agg cs)=cs.all (AV.under n):=by rw[AV.under];simp
def g0b(n:Nat)(cs:List AV):AV.under n (.tup cs)=cs.all (AV.under n):=by rw[AV.under];simp
def u1p(n:Nat)(f:Fn)(xs ys:List AV):AV.under n (.fn f xs ys)=(xs.all (AV.under n) && ys.all (AV.under n)):=by rw[AV.under];simp
def x08(m:Nat)(b:Bool):AV.under m (.bool b)=true:=by simp[AV.under]
def y1j(m:Nat)(k:IntKind)(n:Int):AV.under m (.int k n)=true:=by simp[AV.under]
def w1r(m:Nat)(s:List UInt8):AV.under m (.str s)=true:=by simp[AV.under]
def x0p(m:Nat)(s:List AV):AV.under m (.list s)=true:=by simp[AV.under]
def k09(m:Nat)(s:List AV):AV.under m (.iptr s)=true:=by simp[AV.under]
def j0e(m:Nat):AV.under m .nils=true:=by simp[AV.under]
def x0q(m:Nat):AV.under m .nilp=true:=by simp[AV.under]
def k0w(m:Nat):AV.under m .nilf=true:=by simp[AV.under]
def v04(m:Nat):AV.under m .nili=true:=by simp[AV.under]
def w1j(m:Nat):AV.under m .ifc=true:=by simp[AV.under]
def w1u(m:Nat):AV.under m .top=true:=by simp[AV.under]
def d0p(m:Nat)(p:Bool)(x:AV):AV.under m (.opt p x)=x.under m:=by simp[AV.under]
def x0y(m a b:Nat):AV.under m (.vptr a b)=decide (a<m):=by simp[AV.under]
def w10(m a b c d:Nat):AV.under m (.ept a b c d)=decide (a<m):=by simp[AV.under]
def k1j(m a b c d:Nat):AV.under m (.sl a b c d)=decide (a<m):=by simp[AV.under]
attribute [simp] v0u d0n v0o f0m k1y w1c look put AS.putD ofConst rho Rq TI.agg Hh Ai q0o Uq Ul Mo Bw k2m k2c x2i Le unA d05 setCells AV.cells AV.leaf AV.isTop Cg Yh bnd N7 k2d Ar v1w Q0 Jo I7 Gr
 g0k q02 Ml Be Ax L5 B8 D0 K3 Se K4 Pq Lx Pp Lz Fb N1 x2l AV.withCells z0e Qs Kv Bb
 isVal A8 Hp Gv P0 Li Ht T7 TI.zeros zeroCell Qf Value.cells c1c u29 x2a v0p k0b v0w x0v j0d y1a u1h z1e q13 d0a g0t w14 j1k y2p w1m z1z q10 c01 d03 v18 y2x u0e u0k k0q v08 v0q u1y g1e u0a k0l u0c k0o v0e k0x f0v x19 x0z k03 w1f u0n k00 q1o k0e k07 d0h k0g x0w j05 x06 u05 q1u f0u j00 j1j u1l k1b w2r u0s v0l k04 k0n v0h f0q g1c c0g j09 d0u d0o d07 u1d w2j d00 c04 j12 k0h z1t v1q Oq u08 x0x k0k u00 g06 x1z j1u c14 c17 v2u g0w g05 y1n f0d d0j v1i j18 v1h x18 x0r x07 x01 x1f j13 g2b x1h k1s q2z q11 x1u v15 d0l c0c c0k j0p w1e g1d x1i f0z z1y j1p c1r flat_agg j1r g0x k1i v13 w17 g0b u1p x08 y1j w1r x0p k09 j0e x0q k0w v04 w1j w1u d0p x0y w10 k1j Fk Aa Y6
end
section
open Go.RowKit
section
variable {P:Program} [Env P] {T:TT} {nt k:Nat} {Q:Exit->AS->Prop} {S:AS}
def qa{y:Code}(hT:TOk P T){id:Nat}{l:List Oper}(hd:Uj nt l=true)(h:Gv P T nt k l.toArray (P0 (AWP P nt k y Q) Q .normal) l S):AWP P nt k (.seq (.region id l.toArray false) y) Q S:=Dc (A2 hT hd h)
def qb(hT:TOk P T){id:Nat}{l:List Oper}(hd:Uj nt l=true)(h:Gv P T nt k l.toArray (Q .normal) l S):AWP P nt k (.region id l.toArray false) Q S:=A2 hT hd h
def v2t:Code->Option Exit
 | .skip=>some .normal
 | .exit id=>some (.exit id)
 | .ret=>some .ret
 |_=>none
def qh{c:Code}{e:Exit}(he:v2t c=some e)(h:Q e S):AWP P nt k c Q S:=by
 cases c<;>simp only[v2t,Option.some.injEq,reduceCtorEq]at he<;>subst he
 ·exact y0n h
 ·exact z0n h
 exact z1w h
def qf{id:Nat}{c:Code}(h:AWP P nt k c (Li id Q) S):AWP P nt k (.block id c) Q S:=H4 h
def qg{x y:Code}(h:AWP P nt k x (P0 (AWP P nt k y Q) Q) S):AWP P nt k (.seq x y) Q S:=Dc h
end
end
section
open Go.RowKit
section
variable {P:Program} [Env P] {T:TT} {nt k:Nat} {S:AS} {Q:Exit->AS->Prop}
def U5{c:Code}(t:Nat){xs:List AV}(h:look S.sl t=some (.list xs))(hk:xs.length<=9223372036854775807->AWP P nt k c Q S):AWP P nt k c Q S:=λC a w hs=>by obtain⟨I,m,hw,z1,z6,hf⟩:=hs;obtain⟨v,_,hv⟩:=z1.2.2 t _ h;obtain⟨_,cap,_,_,_,h1,h2,_⟩:=hv.list_inv.list_inv;exact hk (by unfold maxLen at h2;omega) C a w ⟨I,m,hw,z1,z6,hf⟩
def Ec{c:Code}(t i:Nat){cs xs:List AV}(h:look S.sl t=some (.agg cs))(hi:cs[i]?=some (.list xs))(hk:xs.length<=9223372036854775807->AWP P nt k c Q S):AWP P nt k c Q S:=λC a w hs=>by
 obtain⟨I,m,hw,z6,z7,hf⟩:=hs;obtain⟨v,_,hv⟩:=z6.2.2 t _ h;obtain⟨vs,rfl,hl,z1⟩:=hv.agg_inv;have z8:i<vs.size:=by rw[hl];exact(zB.1 hi).1
 have za:=z1 i vs[i] _ (by simp[z8]) hi;obtain⟨_,cap,_,_,_,h1,h2,_⟩:=za.list_inv.list_inv;exact hk (by unfold maxLen at h2;omega) C a w ⟨I,m,hw,z6,z7,hf⟩
def Wf {c:Code} (n:Nat) (Inv:Nat->Prop) (sl:Nat->List (Nat×AV)) (H:Nat->List AObj) {z1:List (Nat×AV)} {H0 G:List AObj} (hH:H0=H 0++G) (hk:k<=(H 0).length) (h0:Ht z1 (sl 0))
  (hu:(sl 0).all (λp=>p.2.under (H 0).length)=true) (z6:(H 0).all (T7 (H 0).length)=true) (hI:Inv 0)
  (h:∀j,j<=n->Inv j->(j<n->Inv (j+1)->P1 P nt k c Q ⟨sl (j+1),H (j+1)⟩)->AWP P nt k c (P0 (P1 P nt k c Q) Q) ⟨sl j,H j⟩):AWP P nt k (.loop c) Q ⟨z1,H0⟩:=by
 subst hH;refine Qj (Qc (sl':=sl 0) (K6 G ?_ hk hu z6) h0);exact Qi (F:=λj=>⟨sl j,H j⟩) (λj=>j<=n/\Inv j) (λj=>n - j) (λj hj ih=>h j hj.1 hj.2 λz7 hi=>ih (j+1) ⟨by omega,hi⟩ (by omega)) 0 ⟨Nat.zero_le _,hI⟩
end
def v0v(g:Bool)(x:AV):deref g (.opt g x)=some x:=by rw[Oq];cases g<;>rfl
def u0b(g p:Bool)(x:AV):deref (g && p) (.opt g x)=some x:=by rw[Oq];cases g<;>cases p<;>rfl
def x00(g p:Bool)(x:AV):deref (p && g) (.opt g x)=some x:=by rw[Oq];cases g<;>cases p<;>rfl
def w0w(g p q:Bool)(x:AV):deref ((g && p) && q) (.opt g x)=some x:=by rw[Oq];cases g<;>cases p<;>cases q<;>rfl
attribute [simp high] v0v u0b x00 w0w
end
section
open Go.RowKit
def AV.ren(s:Nat->Nat):AV->AV
 | .agg cs=> .agg (cs.attach.map λ⟨x,_⟩=>x.ren s)
 | .tup cs=> .tup (cs.attach.map λ⟨x,_⟩=>x.ren s)
 | .fn f xs ys=> .fn f (xs.attach.map λ⟨x,_⟩=>x.ren s) (ys.attach.map λ⟨x,_⟩=>x.ren s)
 | .vptr id off=> .vptr (s id) off
 | .yld id=> .yld (s id)
 | .mref id=> .mref (s id)
 | .ept id c i off=> .ept (s id) c i off
 | .sl id c lo len=> .sl (s id) c lo len
 | .opt p x=> .opt p (x.ren s)
 |x=>x
section
variable (s:Nat->Nat)
def y2w(cs:List AV):(AV.agg cs).ren s= .agg (cs.map (AV.ren s)):=by rw[AV.ren];simp
def q2k(cs:List AV):(AV.tup cs).ren s= .tup (cs.map (AV.ren s)):=by rw[AV.ren];simp
def u24(f:Fn)(xs ys:List AV):(AV.fn f xs ys).ren s= .fn f (xs.map (AV.ren s)) (ys.map (AV.ren s)):=by rw[AV.ren];simp
def u1o(b:Bool):(AV.bool b).ren s= .bool b:=by simp[AV.ren]
def c1y(k:IntKind)(n:Int):(AV.int k n).ren s= .int k n:=by simp[AV.ren]
def q2n(x:List UInt8):(AV.str x).ren s= .str x:=by simp[AV.ren]
def u1n(x:List AV):(AV.list x).ren s= .list x:=by simp[AV.ren]
def x1l(x:List AV):(AV.iptr x).ren s= .iptr x:=by simp[AV.ren]
def v19:(AV.nils).ren s= .nils:=by simp[AV.ren]
def x1q:(AV.nilp).ren s= .nilp:=by simp[AV.ren]
def k1h:(AV.nilf).ren s= .nilf:=by simp[AV.ren]
def y12:(AV.nili).ren s= .nili:=by simp[AV.ren]
def q20:(AV.ifc).ren s= .ifc:=by simp[AV.ren]
def c1k:(AV.top).ren s= .top:=by simp[AV.ren]
def u1e(a:Nat):(AV.mref a).ren s= .mref (s a):=by simp[AV.ren]
def q2l(a:Nat):(AV.yld a).ren s= .yld (s a):=by simp[AV.ren]
def x1p(a b:Nat):(AV.vptr a b).ren s= .vptr (s a) b:=by simp[AV.ren]
def y2g(a b c d:Nat):(AV.ept a b c d).ren s= .ept (s a) b c d:=by simp[AV.ren]
def v2l(a b c d:Nat):(AV.sl a b c d).ren s= .sl (s a) b c d:=by simp[AV.ren]
def c15(p:Bool)(x:AV):(AV.opt p x).ren s= .opt p (x.ren s):=by simp[AV.ren]
end
def AObj.ren(s:Nat->Nat):AObj->AObj
 | .vars cs=> .vars (cs.map (AV.ren s))
 | .arr e c xs=> .arr e c xs
 | .dead=> .dead
 | .tag id t=> .tag (s id) t
 | .lp rdy pend nt sl ps asg body=> .lp rdy pend nt (sl.map λp=>(p.1,p.2.ren s)) ps asg body
 | .mp kvs=> .mp kvs
 | .va e c xs=> .va e c (xs.map (AV.ren s))
 | .it left cur=> .it left cur
 | .fm kvs=> .fm kvs
 | .mv kvs=> .mv (kvs.map λp=>(p.1,p.2.ren s))
def rn(ix:List Nat)(i:Nat):Nat:=ix.getD i i
section
variable {P:Program} [Env P] {nt k:Nat} {Q:Exit->AS->Prop}
end
def u22(ix:List Nat)(i:Nat):rn ix i=ix.getD i i:=rfl
attribute [simp] u1e q2l y2w q2k u24 u1o c1y q2n u1n x1l v19 x1q k1h y12 q20 c1k x1p y2g v2l c15 AObj.ren u22
end
section
open Go.RowKit
section
variable {P:Program} [Env P] {T:TT} {nt k:Nat} {S:AS} {ops:Array Oper} {o:Oper} {R:AS->Prop}
def Wg(ei:TI)(xs ys:List AV):Prop:=(∀y∈ys,y.cells.length=ei.size/\y.cells.all AV.leaf=true)/\(xs.length+ys.length) * ei.bytes<=140737488355328
def Zu (hT:TOk P T) (hw:Qs ops S o=some true) {s x:Operand} {t e:TypeId} (ho:o.op= .call ⟨.builtin .append,#[s,x],#[t,t]⟩) {it ei:TI} (ht:look T t=some it) (hit:it.desc= .slice e) (he:look T e=some ei)
  (hz:ei.zero.cells.size=ei.size) (z1:0<ei.size) (z6:0<ei.bytes) {sv xv:AV} (hs:rho S.sl s=some sv) (hx:rho S.sl x=some xv) (hd:Wm nt o=true)
  (hR:match Aa S e ei.size sv,Fk S.hp xv with
   |some (xs,H1),some ys=>Wg ei xs ys/\R (({ S with hp:=H1++[.arr e ei.size (xs++ys)] }:AS).putD o.dst (.sl S.hp.length ei.size 0 (xs.length+ys.length)))
   |_,_=>False):Q9 P nt k true ops o S R:=by
 cases hb:Aa S e ei.size sv with
 |none=>rw[hb]at hR;exact hR.elim
 |some p=>
  obtain⟨xs,H1⟩:=p;cases hy:Fk S.hp xv with
  |none=>rw[hb,hy]at hR;exact hR.elim
  |some ys=>rw[hb,hy]at hR;obtain⟨⟨h1,h2⟩,h3⟩:=hR;refine N6 hT hw ho ht hit he hz z1 hs hx hb hy h1 h2 ?_ hd h3;have:=Nat.le_mul_of_pos_right (xs.length+ys.length) z6;omega
end
end
section
open Go.RowKit
def AV.fz(i c:Nat)(xs:List AV):AV->AV
 | .agg cs=> .agg (cs.attach.map λ⟨x,_⟩=>x.fz i c xs)
 | .tup cs=> .tup (cs.attach.map λ⟨x,_⟩=>x.fz i c xs)
 | .fn f ys zs=> .fn f (ys.attach.map λ⟨x,_⟩=>x.fz i c xs) (zs.attach.map λ⟨x,_⟩=>x.fz i c xs)
 | .sl id c' lo len=>if id=i/\c'=c/\lo+len<=xs.length then .list ((xs.drop lo).take len)else .sl id c' lo len
 | .opt p x=> .opt p (x.fz i c xs)
 |x=>x
section
variable (i c:Nat) (xs:List AV)
def Zj(cs:List AV):(AV.agg cs).fz i c xs= .agg (cs.map (AV.fz i c xs)):=by rw[AV.fz];simp
def c03(cs:List AV):(AV.tup cs).fz i c xs= .tup (cs.map (AV.fz i c xs)):=by rw[AV.fz];simp
def w2v(f:Fn)(ys zs:List AV):(AV.fn f ys zs).fz i c xs= .fn f (ys.map (AV.fz i c xs)) (zs.map (AV.fz i c xs)):=by rw[AV.fz];simp
def c1u(b:Bool):(AV.bool b).fz i c xs= .bool b:=by simp[AV.fz]
def x28(k:IntKind)(n:Int):(AV.int k n).fz i c xs= .int k n:=by simp[AV.fz]
def x2h(x:List UInt8):(AV.str x).fz i c xs= .str x:=by simp[AV.fz]
def d0f(x:List AV):(AV.list x).fz i c xs= .list x:=by simp[AV.fz]
def q2h(x:List AV):(AV.iptr x).fz i c xs= .iptr x:=by simp[AV.fz]
def w2z:(AV.nils).fz i c xs= .nils:=by simp[AV.fz]
def y2d:(AV.nilp).fz i c xs= .nilp:=by simp[AV.fz]
def q2j:(AV.nilf).fz i c xs= .nilf:=by simp[AV.fz]
def y2v:(AV.nili).fz i c xs= .nili:=by simp[AV.fz]
def x22:(AV.ifc).fz i c xs= .ifc:=by simp[AV.fz]
def u2v:(AV.top).fz i c xs= .top:=by simp[AV.fz]
def g0f(a:Nat):(AV.mref a).fz i c xs= .mref a:=by simp[AV.fz]
def d1k(a:Nat):(AV.yld a).fz i c xs= .yld a:=by simp[AV.fz]
def c07(a b:Nat):(AV.vptr a b).fz i c xs= .vptr a b:=by simp[AV.fz]
def f1a(a b d e:Nat):(AV.ept a b d e).fz i c xs= .ept a b d e:=by simp[AV.fz]
def u1j(id c' lo len:Nat):(AV.sl id c' lo len).fz i c xs=if id=i/\c'=c/\lo+len<=xs.length then .list ((xs.drop lo).take len)else .sl id c' lo len:=by rw[AV.fz]
def f1d(p:Bool)(x:AV):(AV.opt p x).fz i c xs= .opt p (x.fz i c xs):=by simp[AV.fz]
end
def AObj.fz(i c:Nat)(xs:List AV):AObj->AObj
 | .vars cs=> .vars (cs.map (AV.fz i c xs))
 | .arr e c' ys=> .arr e c' ys
 | .dead=> .dead
 | .tag id t=> .tag id t
 | .lp rdy pend nt sl ps asg body=> .lp rdy pend nt (sl.map λp=>(p.1,p.2.fz i c xs)) ps asg body
 | .mp kvs=> .mp kvs
 | .va e c' ys=> .va e c' (ys.map (AV.fz i c xs))
 | .it left cur=> .it left cur
 | .fm kvs=> .fm kvs
 | .mv kvs=> .mv (kvs.map λp=>(p.1,p.2.fz i c xs))
def y01(i c:Nat)(xs:List AV)(x:AV):(x.fz i c xs).cells=x.cells.map (AV.fz i c xs):=by
 cases x with
 |sl a b d e=>by_cases h:a=i/\b=c/\d+e<=xs.length<;>simp[AV.fz,AV.cells,h]
 |_=>simp[AV.fz,AV.cells]
def y2f{w:World}{I:Nat->Prop}{v:Value}{x:AV}(i c:Nat)(xs:List AV)(h:PVR w I v x):x.fz i c xs=x:=by
 have key:∀(vs:Array Value) (cs:List AV),vs.size=cs.length->(∀(k:Nat) (v:Value) (x:AV),vs[k]?=some v->cs[k]?=some x->x.fz i c xs=x)->cs.map (AV.fz i c xs)=cs:=λvs cs hl ih=>by
  refine xL λk=>?_;rw[zS];cases hx:cs[k]? with
  |none=>rfl
  |some x=>
   have hk:k<vs.size:=by rw[hl];exact(zB.1 hx).1
   rw[wG,ih k vs[k] x (by simp[hk]) hx]
 induction h with
 |agg vs cs hl h ih=>rw[Zj,key vs cs hl ih]
 |tup vs cs hl h ih=>rw[c03,key vs cs hl ih]
 |fn f vs us ys zs hl h hl' h' ih ih'=>rw[w2v,key vs ys hl ih,key us zs hl' ih']
 |_=>simp[AV.fz]
section
variable {P:Program} [Env P] {nt k:Nat} {Q:Exit->AS->Prop} {W0 w:World} {I0 I:Nat->Prop} {m:Nat->Option Nat} {H:List AObj}
def VR.fz(hw:WS W0 I0 w I m H){i e c:Nat}{xs:List AV}(hi:H[i]?=some (.arr e c xs)){v:Value}{x:AV}(h:VR w I m H.length v x):
  VR w (λb=>I b\/m i=some b) m H.length v (x.fz i c xs):=by
 have z6:Ext w w I (λb=>I b\/m i=some b):=⟨λ_ h=> .inl h,λ_ _=>rfl⟩
 have z8:i<H.length:=(zB.1 hi).1
 -- the other objects set aside
 have z1:∀(id:Nat) (o:AObj),((yB H.length AObj.dead).set i (.arr e c xs))[id]?=some o->(id=i/\o= .arr e c xs)\/o= .dead:=λid o ho=>by
  by_cases hid:id=i
  ·subst hid;rw[zK (by simpa using z8)]at ho;exact .inl ⟨rfl,(Option.some.inj ho).symm⟩
  rw[zE (by omega),vD]at ho;split at ho
  ·exact .inr (Option.some.inj ho).symm
  cases ho
 have za:WS W0 I0 w I m ((yB H.length AObj.dead).set i (.arr e c xs)):=by
  refine⟨hw.below,hw.i0,hw.iw,λid o ho=>?_,λid o b ho hl hm=>?_,λa b oa ob d ha hb la lb ma mb=>?_⟩
  ·rcases z1 id o ho with⟨rfl,rfl⟩|rfl
   ·have:=hw.obj _ _ hi;simpa using this
   trivial
  ·rcases z1 id o ho with⟨rfl,rfl⟩|rfl
   ·exact hw.own _ _ b hi rfl hm
   cases hl
  rcases z1 a oa ha with⟨rfl,rfl⟩|rfl
  ·rcases z1 b ob hb with⟨rfl,rfl⟩|rfl
   ·rfl
   cases lb
  cases la
 have z7:∀b,u0x I m ((yB H.length AObj.dead).set i (.arr e c xs)) b->I b\/m i=some b:=λb hb=>by
  rcases hb with hb|⟨id,o,ho,hl,hm⟩
  ·exact .inl hb
  rcases z1 id o ho with⟨rfl,rfl⟩|rfl
  ·exact .inr hm
  cases hl
 induction h with
 |pure h=>rw[y2f i c xs h];exact .pure (h.mono z6)
 |agg vs cs hl h ih=>rw[Zj];refine .agg vs _ (by simpa using hl) λj v x hv hx=>?_;rw[zS]at hx;obtain⟨y,hy,rfl⟩:=zP.1 hx;exact ih j v y hv hy
 |tup vs cs hl h ih=>rw[c03];refine .tup vs _ (by simpa using hl) λj v x hv hx=>?_;rw[zS]at hx;obtain⟨y,hy,rfl⟩:=zP.1 hx;exact ih j v y hv hy
 |fn f vs us ys zs hl h hl' h' ih ih'=>
  rw[w2v];refine .fn f vs us _ _ (by simpa using hl) (λj v x hv hx=>?_) (by simpa using hl') (λj v x hv hx=>?_)
  ·rw[zS]at hx;obtain⟨y,hy,rfl⟩:=zP.1 hx;exact ih j v y hv hy
  rw[zS]at hx;obtain⟨y,hy,rfl⟩:=zP.1 hx;exact ih' j v y hv hy
 |vptr id off b hn hb=>rw[c07];exact .vptr id off b hn hb
 |ept id c' j off b hn hb=>rw[f1a];exact .ept id c' j off b hn hb
 |yld id b hn hb=>rw[d1k];exact .yld id b hn hb
 |mref id b hn hb=>rw[g0f];exact .mref id b hn hb
 |opt p x h1 h2 ih=>rw[f1d];exact .opt p _ ih h2
 |sl id c' lo len cap b t hn hb hs hl hmax=>
  rw[u1j];have hv:VR w I m H.length _ _:= .sl id c' lo len cap b t hn hb hs hl hmax;split
  ·rename_i hc;obtain⟨rfl,rfl,zb⟩:=hc;have:=Py za (by simpa using hv) (y:= .list ((xs.drop lo).take len)) (by simp[Q8,zK,z8,zb]);exact .pure (this.mono ⟨z7,λ_ _=>rfl⟩)
  exact .sl id c' lo len cap b t hn hb hs hl hmax
 |slnone id c' hn hb=>
  rw[u1j];split
  ·refine .pure ?_;simp only[List.drop_zero,wd];exact .list _ _ _ 0 _ (λ_ _=>undef) rfl (by simp) (by unfold maxLen;omega) (λx hx=>by simp at hx) (λh0=>by simp at h0) (λi x hx=>by simp at hx)
  exact .slnone id c' hn hb
 |slend id c' lo a hn hlo=>
  rw[u1j];split
  ·refine .pure ?_;simp only[wd];exact .list _ _ _ 0 _ (λ_ _=>undef) rfl (by simp) (by unfold maxLen;omega) (λx hx=>by simp at hx) (λh0=>by simp at h0) (λi x hx=>by simp at hx)
  exact .slend id c' lo a hn hlo
def Dp{i c:Nat}{xs:List AV}{t:Nat}{x:AV}:∀ {sl:List (Nat×AV)},look (sl.map λp=>(p.1,p.2.fz i c xs)) t=some x->∃y,look sl t=some y/\x=y.fz i c xs
 |[],hx=>by cases hx
 |(t',y)::r,hx=>by
  simp only[xC,look]at hx |-;split
  ·rename_i e;subst e;simp at hx;exact⟨y,rfl,hx.symm⟩
  rename_i e;rw[if_neg e]at hx;exact Dp hx
def Yv.fz(hw:WS W0 I0 w I m H){i e c:Nat}{xs:List AV}(hi:H[i]?=some (.arr e c xs)){b? :Option Nat}{o:AObj}(h:Yv w I m H.length b? o):
  Yv w (λb=>I b\/m i=some b) m H.length b? (o.fz i c xs):=by
 have z1:Ext w w I (λb=>I b\/m i=some b):=⟨λ_ h=> .inl h,λ_ _=>rfl⟩
 cases o with
 |vars cs=>obtain⟨b,t,vs,e1,hh,hl,hr⟩:=h;refine⟨b,t,vs,e1,hh,by simpa using hl,λj v x hv hx=>?_⟩;rw[zS]at hx;obtain⟨y,hy,rfl⟩:=zP.1 hx;exact(hr j v y hv hy).fz hw hi
 |arr e' c' ys=>
  rcases h with h|⟨b,cap,vs,e1,hh,h1,h2,h3,h4,hr⟩
  ·exact .inl h
  exact .inr ⟨b,cap,vs,e1,hh,h1,h2,h3,h4,λi x hx j y hy=>by obtain⟨v,hv,hp⟩:=hr i x hx j y hy;exact⟨v,hv,hp.mono z1⟩⟩
 |it left cur=>obtain⟨r,bm,es,ck,since,seen,c0,e1,hh,hI,hm,h1,h2,h3,h4,h5,hr,z6⟩:=h;exact⟨r,bm,es,ck,since,seen,c0,e1,hh,.inl hI,hm,h1,h2,h3,h4,h5,λi x p a d=>⟨(hr i x p a d).1.mono z1,(hr i x p a d).2.mono z1⟩,λp hp=>by obtain⟨e2,sn,q1,q2,q3,q4,q5⟩:=z6 p hp;exact⟨e2,sn,q1,q2,q3,q4.mono z1,q5.mono z1⟩⟩
 |va e' c' ys=>
  rcases h with⟨h7,h8⟩|⟨b,cap,vs,e1,hh,h1,h2,h3,h4,hr⟩
  ·exact .inl ⟨h7,by rw[h8];rfl⟩
  refine .inr ⟨b,cap,vs,e1,hh,by simpa using h1,h2,h3,λx hx=>?_,λk x hx j y hy=>?_⟩
  ·obtain⟨z,hz,rfl⟩:=zQ.1 hx;rw[y01,yO];exact h4 z hz
  rw[zS]at hx;obtain⟨z,hz,rfl⟩:=zP.1 hx;rw[y01,zS]at hy;obtain⟨u,hu,rfl⟩:=zP.1 hy;obtain⟨v,hv,hp⟩:=hr k z hz j u hu;exact⟨v,hv,hp.fz hw hi⟩
 |dead=>trivial
 |fm kvs=>obtain⟨b,es,ck,e1,hI,hh,hl,hr⟩:=h;exact⟨b,es,ck,e1,.inl hI,hh,hl,λi x p a d=>⟨(hr i x p a d).1.mono z1,(hr i x p a d).2.mono z1⟩⟩
 |tag j t=>exact h
 |lp rdy pend nt sl ps asg body=>obtain⟨b,r,e1,hh,q1,q2,q3,q4,q5,q6,q7⟩:=h;refine⟨b,r,e1,hh,q1,q2,q3,q4,q5,q6,λt x hx=>?_⟩;obtain⟨y,hy,rfl⟩:=Dp hx;obtain⟨v,hv,hr⟩:=q7 t y hy;exact⟨v,hv,hr.fz hw hi⟩
 |mp kvs=>obtain⟨b,es,ck,e1,hh,hl,hr⟩:=h;exact⟨b,es,ck,e1,hh,hl,λi x p a d=>⟨(hr i x p a d).1.mono z1,(hr i x p a d).2.mono z1⟩⟩
 |mv kvs=>obtain⟨b,es,ck,e1,hh,hl,hr⟩:=h;refine⟨b,es,ck,e1,hh,⟨by simpa using hl.size,hl.born,hl.nodup⟩,λi x p a d=>?_⟩;rw[zS]at d;obtain⟨q,hq,rfl⟩:=zP.1 d;exact⟨(hr i x q a hq).1.mono z1,(hr i x q a hq).2.fz hw hi⟩
def St.freeze{C:Cx P}{a:Act}{w:World}{sl:List (Nat×AV)}{H:List AObj}(hs:St C nt k ⟨sl,H⟩ a w)(i:Nat){e c:Nat}{xs:List AV}(hi:H[i]?=some (.arr e c xs)):
  St C nt k ⟨sl.map λp=>(p.1,p.2.fz i c xs),(H.set i .dead).map (AObj.fz i c xs)⟩ a w:=by
 obtain⟨I,m,hw,z7,hk,hf⟩:=hs;have z8:Ext w w I (λb=>I b\/m i=some b):=⟨λ_ h=> .inl h,λ_ _=>rfl⟩
 have hlen:((H.set i .dead).map (AObj.fz i c xs)).length=H.length:=by simp
 have z6:∀(id:Nat) (o:AObj),((H.set i .dead).map (AObj.fz i c xs))[id]?=some o->o.live=true->id≠i/\∃o',H[id]?=some o'/\o=o'.fz i c xs/\o'.live=true:=λid o ho hl=>by
  rw[zS]at ho;obtain⟨o',z1,rfl⟩:=zP.1 ho;by_cases hid:id=i
  ·subst hid;rw[zK (zB.1 hi).1]at z1;cases z1;simp[AObj.fz,AObj.live]at hl
  rw[zE (by omega)]at z1;exact⟨hid,o',z1,rfl,by cases o'<;>exact hl⟩
 refine⟨λb=>I b\/m i=some b,m,⟨hw.below,λb hb=> .inl (hw.i0 b hb),λb hb=>?_,λid o ho=>?_,λid o b ho hl hm=>?_,λa b oa ob d ha hb la lb ma mb=>?_⟩,⟨z7.1,z7.2.1,λt x hx=>?_⟩,by rw[hlen];exact hk,hf.trans hk ⟨z8,λ_ _=>rfl,λ_ _ h=>h⟩⟩
 ·rcases hb with hb|hb
  ·exact hw.iw b hb
  have:=hw.own i _ b hi rfl hb;exact⟨this.2.2,.inr this.1⟩
 ·rw[hlen];by_cases hl:o.live=true
  ·obtain⟨_,o',z1,rfl,_⟩:=z6 id o ho hl;exact(hw.obj id o' z1).fz hw hi
  rw[zS]at ho;obtain⟨o',z1,rfl⟩:=zP.1 ho;by_cases hid:id=i
  ·subst hid;rw[zK (zB.1 hi).1]at z1;cases z1;trivial
  rw[zE (by omega)]at z1;cases o' with
  |vars cs=>exact absurd rfl hl
  |arr e c xs=>exact absurd rfl hl
  |dead=>trivial
  |tag j t=>exact hw.obj id _ z1
  |lp rdy pend nt sl ps asg body=>exact absurd rfl hl
  |mp kvs=>exact absurd rfl hl
  |va e c xs=>exact absurd rfl hl
  |it left cur=>exact absurd rfl hl
  |fm kvs=>exact(hw.obj id _ z1).fz hw hi
  |mv kvs=>exact absurd rfl hl
 ·obtain⟨za,o',z1,rfl,hl'⟩:=z6 id o ho hl;have h1:=hw.own id o' b z1 hl' hm;refine⟨h1.1,λhc=>?_,h1.2.2⟩;rcases hc with hc|hc
  ·exact h1.2.1 hc
  exact za (hw.inj id i o' _ b z1 hi hl' rfl hm hc)
 ·obtain⟨_,zb,zc,_,zd⟩:=z6 a oa ha la;obtain⟨_,ze,zf,_,zg⟩:=z6 b ob hb lb;exact hw.inj a b zb ze d zc zf zd zg ma mb
 rw[hlen];have:=Dp hx;obtain⟨y,hy,rfl⟩:=this;obtain⟨v,hv,hr⟩:=z7.2.2 t y hy;exact⟨v,hv,hr.fz hw hi⟩
def k0s{cd:Code}{sl:List (Nat×AV)}{H:List AObj}(i:Nat){e c:Nat}{xs:List AV}(hi:H[i]?=some (.arr e c xs))(h:AWP P nt k cd Q ⟨sl.map λp=>(p.1,p.2.fz i c xs),(H.set i .dead).map (AObj.fz i c xs)⟩):AWP P nt k cd Q ⟨sl,H⟩:=
 λC a w hs=>h C a w (hs.freeze i hi)
def Y1{wr:Bool}{ops:Array Oper}{o:Oper}{R:AS->Prop}{sl:List (Nat×AV)}{H:List AObj}(i:Nat){e c:Nat}{xs:List AV}(hi:H[i]?=some (.arr e c xs))(h:Q9 P nt k wr ops o ⟨sl.map λp=>(p.1,p.2.fz i c xs),(H.set i .dead).map (AObj.fz i c xs)⟩ R):Q9 P nt k wr ops o ⟨sl,H⟩ R:=
 λC a w K Q hs=>h C a w K Q (hs.freeze i hi)
end
attribute [simp] g0f d1k Zj c03 w2v c1u x28 x2h d0f q2h w2z y2d q2j y2v x22 u2v c07 f1a u1j f1d AObj.fz
end
section
open Go.RowKit
section
variable {P:Program} [Env P] {T:TT} {nt k:Nat} {S:AS} {ops:Array Oper} {o:Oper} {R:AS->Prop}
def J9 (hT:TOk P T) {wr:Bool} (hw:Qs ops S o=some true) {t u e:TypeId} {x:Operand} (ho:o.op= .binOp .eql t x (.const (.slice none 0 0)) u) {it:TI} (ht:look T t=some it) (hit:it.desc= .slice e)
  {xs:List AV} (hx:rho S.sl x=some (.list xs)) (hd:Wm nt o=true) (hR:∀b,(xs≠[]->b=false)->R (S.putD o.dst (.bool b))):Q9 P nt k wr ops o S R:=λC a w K Q hs hK=>by
 unfold OpW;rw[if_pos (hs.wanted hw)];obtain⟨I,m,z8,z6,hk,hE⟩:=hs;obtain⟨ad,cap,c,uu,hv,h1,h2,h3,h4,h5⟩:=(Qq z6 hx).list_inv.list_inv;have z7:=hT.und ht;rw[hit]at z7;have z1:(execOp a.eval o).run P w= .ok (.value (.bool ad.isNone)) w:=by have:=Go.Lib.run_eql_slice_nil (P:=P) w t e ad xs.length cap 0 0 z7;have hc:a.eval (.const (.slice none 0 0))= .slice none 0 0:=rfl;simp[execOp,ho,hv,eqGuard,hc,this]
 unfold wpA;rw[z1];refine hK _ _ w (hR ad.isNone λza=>?_) (St.value z6 hk hE z8 (Fut.refl _ _ _ _) (zR _) (Qm hd) (.pure (.bool _))) (λ_=>Tn.refl w);obtain⟨zb,rfl,_⟩:=h4 (List.length_pos_iff.2 za);rfl
end
end
section
open Go.RowKit
inductive Plan where
 |done
 |val (i:Nat) (p:Plan)
 |one (i:Nat) (p:Plan)
 |two (i:Nat) (p:Plan) (j:Nat) (q:Plan)
def Plan.size:Plan->Nat
 | .done=>0
 | .val _ p=>p.size+1
 | .one _ p=>p.size+1
 | .two _ p _ _=>p.size+1
def Ky(ops:Array Oper)(cl:List (List Nat))(Wr:List Nat):Plan->Array Bool->Bool
 | .done,l=>(Region.ready .any ops l).isEmpty
 | .val i p,l=>(match ops[i]? with
   |none=>false
   |some o=>isVal o.op && y0y ops cl Wr l i && (Region.ready .any ops l).contains i) && Ky ops cl Wr p (l.setIfInBounds i true)
 | .one i p,l=>(ops[i]?).isSome && Region.ready .any ops l==[i] && Ky ops cl Wr p (l.setIfInBounds i true)
 | .two i p j q,l=>(ops[i]?).isSome && (ops[j]?).isSome && Region.ready .any ops l==[i,j] && p.size==q.size && Ky ops cl Wr p (l.setIfInBounds i true) && Ky ops cl Wr q (l.setIfInBounds j true)
def stepT(P:Program)[Env P](T:TT)(nt k:Nat)(ops:Array Oper)(W:Nat->Bool)(i:Nat)(R:AS->Prop)(S:AS):Prop:=match ops[i]? with
 |none=>False
 |some o=>if A8 o.op then(match Kv T ops S o with
   |some S'=>(Hp o.op=true->W i=true)/\R S'
   |none=>False)
  else Q9 P nt k (W i) ops o S R
def R5(P:Program)[Env P](T:TT)(nt k:Nat)(ops:Array Oper)(W:Nat->Bool)(i:Nat)(R:AS->Prop)(S:AS):Prop:=match ops[i]? with
 |none=>False
 |some o=>if A8 o.op then(match Kv T ops S o with
   |some S'=>(Hp o.op=true->W i=true)/\R S'
   |none=>Q9 P nt k (W i) ops o S R)
  else Q9 P nt k (W i) ops o S R
def Nb(P:Program)[Env P](T:TT)(nt k:Nat)(ops:Array Oper)(W:Nat->Bool)(Q:AS->Prop):Plan->AS->Prop
 | .done,S=>Q S
 | .val i p,S=>stepT P T nt k ops W i (Nb P T nt k ops W Q p) S
 | .one i p,S=>R5 P T nt k ops W i (Nb P T nt k ops W Q p) S
 | .two i p j q,S=>R5 P T nt k ops W i (Nb P T nt k ops W Q p) S/\R5 P T nt k ops W j (Nb P T nt k ops W Q q) S
section
variable {P:Program} [Env P] {T:TT} {nt k:Nat} {S:AS} {ops:Array Oper} {o:Oper} {R:AS->Prop} {Wr:List Nat}
def Rg (hT:TOk P T) {C:Cx P} (hd:Uj nt ops.toList=true) {i:Nat} {R':AS->Prop} {N:Act->World->Prop} {a:Act} {w:World} (h:R5 P T nt k ops Wr.contains i R' S) (hs:St C nt k S a w)
  (hN:∀S' a' w',R' S'->St C nt k S' a' w'->N a' w'):Dk P ops (x1a C nt k R) i (λa' w'=>(Wr.contains i=false->Tn w w')/\N a' w') a w:=by
 unfold R5 at h;cases ho:ops[i]? with
 |none=>rw[ho]at h;exact h.elim
 |some o=>
  rw[ho]at h;simp only at h;have z1:Wm nt o=true:=zZ.1 hd o (by simpa using ut ho);have key:Q9 P nt k (Wr.contains i) ops o S R':=by
   split at h
   ·split at h
    ·rename_i S' z6;exact K7 hT z6 z1 h.1 (by assumption) h.2
    exact h
   exact h
  have:=key C a w (λa' w'=>(Wr.contains i=false->Tn w w')/\N a' w') (x1a C nt k R) hs (λS' a' w' hR z7 hh=>⟨hh,hN S' a' w' hR z7⟩);unfold Dk;rw[ho];exact this
def Oc(hT:TOk P T){C:Cx P}(hd:Uj nt ops.toList=true)(z8:Region.noSelect ops=true):∀(p:Plan) (listed:Array Bool) (S:AS) (a:Act) (w:World),I6 ops listed->Ky ops (Ie ops.toList []) Wr p listed=true->Nb P T nt k ops Wr.contains R p S->St C nt k S a w->
  Lk P ops Wr (x1a C nt k R) p.size listed a w
 | .done,listed,S,a,w,_,hp,h,hs=>⟨by simpa[Ky]using hp,S,h,hs⟩
 | .val i p,listed,S,a,w,z6,hp,h,hs=>by
  unfold Ky at hp;unfold Nb stepT at h;rw[yF]at hp;obtain⟨zb,za⟩:=hp;cases ho:ops[i]? with
  |none=>rw[ho]at h;exact h.elim
  |some o=>
   rw[ho]at h zb;simp only at h zb;have zc:Wm nt o=true:=zZ.1 hd o (by simpa using ut ho);simp only[yF]at zb;obtain⟨⟨hv,hf⟩,hr⟩:=zb;have zd:A8 o.op=true:=by cases hop:o.op<;>rw[hop]at hv<;>first|rfl|exact hv|(simp[isVal]at hv)
   rw[if_pos zd]at h;have z1:i∈Region.ready .any ops listed:=by simpa using hr
   split at h
   ·rename_i S' ze;obtain⟨v,hy,z7⟩:=hs.yields hT zc hv ze;exact Dx ho (Region.noSelect_spec z8) (λc a w hq=>hq) (λx y=>Y3 o.op=true->Tn x y) (λw _=>Tn.refl w) (λx y z h1 h2 hr=>(h1 hr).trans (h2 hr)) p.size listed a w
     (λj oj hj zf zg zh=>z0z ho hf j oj hj zf zg zh) z6 z1 hy (Oc hT hd z8 p _ S' _ w (z6.set z1) za h.2 z7)
   exact h.elim
 | .one i p,listed,S,a,w,z6,hp,h,hs=>by
  unfold Ky at hp;simp only[yF,beq_iff_eq]at hp;obtain⟨⟨_,z1⟩,za⟩:=hp;have zi:i∈Region.ready .any ops listed:=by rw[z1];simp
  refine⟨λh0=>(by rw[z1]at h0;cases h0),λj hj=>?_⟩;rw[z1]at hj;obtain rfl:j=i:=by simpa using hj
  exact Rg hT hd h hs λS' a' w' hR z7=>Oc hT hd z8 p _ S' a' w' (z6.set zi) za hR z7
 | .two i p j q,listed,S,a,w,z6,hp,h,hs=>by
  unfold Ky at hp;simp only[yF,beq_iff_eq]at hp;obtain⟨⟨⟨⟨_,z1⟩,zj⟩,za⟩,zk⟩:=hp;have zl:i∈Region.ready .any ops listed:=by rw[z1];simp
  have zm:j∈Region.ready .any ops listed:=by rw[z1];simp
  refine⟨λh0=>(by rw[z1]at h0;cases h0),λm hm=>?_⟩;rw[z1]at hm;rcases(by simpa using hm:m=i\/m=j)with rfl|rfl
  ·exact Rg hT hd h.1 hs λS' a' w' hR z7=>Oc hT hd z8 p _ S' a' w' (z6.set zl) za hR z7
  refine Rg hT hd h.2 hs λS' a' w' hR z7=>?_;have:=Oc hT hd z8 q _ S' a' w' (z6.set zm) zk hR z7;rw[<-zj]at this;exact this
def Qo (hT:TOk P T) (hm:P.follows .mixedOrders=true) {Q:Exit->AS->Prop} {id:Nat} {l:List Oper} (Wr:List Nat) (p:Plan) (hd:Uj nt l=true)
  (hp:(Region.noSelect l.toArray && p.size==l.length && Ky l.toArray (Ie l []) Wr p (ur l.length false))=true)
  (h:Nb P T nt k l.toArray Wr.contains (Q .normal) p S):AWP P nt k (.region id l.toArray true) Q S:=λC a w hs=>by
 simp only[yF,beq_iff_eq]at hp;obtain⟨⟨h1,h2⟩,h3⟩:=hp;refine Cj (wpIn_region_any hm (Df (Wr:=Wr) _ _ _ _ ?_));have z8:St C nt k S a { w with drawn:=w.drawn+1 }:=by
  obtain⟨I,m,hw,z1,hk,hE⟩:=hs;have hb:Below w.heap.size w { w with drawn:=w.drawn+1 }:=⟨rfl,rfl,rfl,zR _,λ_ _=>rfl⟩
  obtain⟨g1,g2⟩:=hw.step hb (λ_ h=>h) (λb z6=>⟨(hw.iw b z6).1,.inl z6⟩);exact⟨I,m,g1,⟨z1.1,z1.2.1,λt x hx=>by obtain⟨v,hv,hr⟩:=z1.2.2 t x hx;exact⟨v,hv,hr.mono g2 (zR _)⟩⟩,hk,hE.trans hk g2⟩
 have:=Oc hT (C:=C) (nt:=nt) (k:=k) (R:=Q .normal) (by simpa using hd) h1 p (ur l.length false) S a _ (λj o ho hj=>by
  have z7:=(yS.1 ho).1;simp at z7;simp[z7]at hj) (by simpa using h3) h z8
 rw[h2]at this;simpa using this
end
attribute [simp] Nb stepT R5
end
section
open Go.RowKit
section
variable {P:Program} [Env P] {T:TT} {nt k:Nat} {S:AS} {ops:Array Oper} {o:Oper} {R:AS->Prop}
end
end
section
open Go.RowKit
section
variable {P:Program} [Env P] {T:TT} {nt k:Nat} {S:AS} {ops:Array Oper} {o:Oper} {R:AS->Prop}
end
end
section
open Go.RowKit
section
variable {P:Program} [Env P] {T:TT} {nt k:Nat} {S:AS} {ops:Array Oper} {o:Oper} {R:AS->Prop} {Q:Exit->AS->Prop}
def q2b{w:World}{t e:TypeId}{ty:TypeId}(z1:P.underlying t=some (.slice e))(a:Option Addr)(n c:Nat):(Builtin.cap_ #[t] ty #[.slice a n c]).run P w= .ok (goInt c) w:=by simp[Builtin.cap_,run_underlying z1]
end
end
section
open Go.RowKit
section
variable {P:Program} [Env P] {T:TT} {nt k:Nat} {S:AS} {ops:Array Oper} {o:Oper} {R:AS->Prop} {Q:Exit->AS->Prop}
end
end
section
open Go.RowKit
section
variable {P:Program} [Env P] {T:TT} {nt k:Nat} {S:AS} {ops:Array Oper} {o:Oper} {R:AS->Prop} {Q:Exit->AS->Prop}
end
end
section
open Go.RowKit
section
variable {P:Program} [Env P] {T:TT} {nt k:Nat} {S:AS} {ops:Array Oper} {o:Oper} {R:AS->Prop} {Q:Exit->AS->Prop}
end
end
section
open Go.RowKit
section
variable {P:Program} [Env P] {T:TT} {nt k:Nat} {S:AS} {ops:Array Oper} {o:Oper} {R:AS->Prop}
@[simp] theorem valA_slice3 (T:TT) (S:AS) (g:Bool) (t:TypeId) (x:Operand) (lo hi:Option Operand) (mx:Operand):Ft T S g (.slice t x lo hi (some mx))=none:=rfl
end
end
section
open Go.RowKit
def AV.fv(i:Nat)(xs:List AV):AV->AV
 | .agg cs=> .agg (cs.attach.map λ⟨x,_⟩=>x.fv i xs)
 | .tup cs=> .tup (cs.attach.map λ⟨x,_⟩=>x.fv i xs)
 | .fn f ys zs=> .fn f (ys.attach.map λ⟨x,_⟩=>x.fv i xs) (zs.attach.map λ⟨x,_⟩=>x.fv i xs)
 | .vptr id off=>if id=i then .iptr (xs.drop off)else .vptr id off
 | .opt p x=> .opt p (x.fv i xs)
 |x=>x
section
variable (i:Nat) (xs:List AV)
def q12(cs:List AV):(AV.agg cs).fv i xs= .agg (cs.map (AV.fv i xs)):=by rw[AV.fv];simp
def d0c(cs:List AV):(AV.tup cs).fv i xs= .tup (cs.map (AV.fv i xs)):=by rw[AV.fv];simp
def z2h(f:Fn)(ys zs:List AV):(AV.fn f ys zs).fv i xs= .fn f (ys.map (AV.fv i xs)) (zs.map (AV.fv i xs)):=by rw[AV.fv];simp
def q26(b:Bool):(AV.bool b).fv i xs= .bool b:=by simp[AV.fv]
def x2y(k:IntKind)(n:Int):(AV.int k n).fv i xs= .int k n:=by simp[AV.fv]
def x2x(x:List UInt8):(AV.str x).fv i xs= .str x:=by simp[AV.fv]
def w20(x:List AV):(AV.list x).fv i xs= .list x:=by simp[AV.fv]
def c11(x:List AV):(AV.iptr x).fv i xs= .iptr x:=by simp[AV.fv]
def z2r:(AV.nils).fv i xs= .nils:=by simp[AV.fv]
def q2p:(AV.nilp).fv i xs= .nilp:=by simp[AV.fv]
def w2f:(AV.nilf).fv i xs= .nilf:=by simp[AV.fv]
def y2z:(AV.nili).fv i xs= .nili:=by simp[AV.fv]
def v2v:(AV.ifc).fv i xs= .ifc:=by simp[AV.fv]
def x2g:(AV.top).fv i xs= .top:=by simp[AV.fv]
def g1n(a b d e:Nat):(AV.sl a b d e).fv i xs= .sl a b d e:=by simp[AV.fv]
def d1a(a b d e:Nat):(AV.ept a b d e).fv i xs= .ept a b d e:=by simp[AV.fv]
def y1e(a:Nat):(AV.mref a).fv i xs= .mref a:=by simp[AV.fv]
def f1w(a:Nat):(AV.yld a).fv i xs= .yld a:=by simp[AV.fv]
def w1k(id off:Nat):(AV.vptr id off).fv i xs=if id=i then .iptr (xs.drop off)else .vptr id off:=by rw[AV.fv]
def f1x(p:Bool)(x:AV):(AV.opt p x).fv i xs= .opt p (x.fv i xs):=by simp[AV.fv]
end
def AObj.fv(i:Nat)(xs:List AV):AObj->AObj
 | .vars cs=> .vars (cs.map (AV.fv i xs))
 | .arr e c' ys=> .arr e c' ys
 | .dead=> .dead
 | .tag id t=> .tag id t
 | .lp rdy pend nt sl ps asg body=> .lp rdy pend nt (sl.map λp=>(p.1,p.2.fv i xs)) ps asg body
 | .mp kvs=> .mp kvs
 | .va e c' ys=> .va e c' (ys.map (AV.fv i xs))
 | .it left cur=> .it left cur
 | .fm kvs=> .fm kvs
 | .mv kvs=> .mv (kvs.map λp=>(p.1,p.2.fv i xs))
def z0q(i:Nat)(xs:List AV)(x:AV):(x.fv i xs).cells=x.cells.map (AV.fv i xs):=by
 cases x with
 |vptr a b=>by_cases h:a=i<;>simp[AV.fv,AV.cells,h]
 |_=>simp[AV.fv,AV.cells]
def c1h{w:World}{I:Nat->Prop}{v:Value}{x:AV}(i:Nat)(xs:List AV)(h:PVR w I v x):x.fv i xs=x:=by
 have key:∀(vs:Array Value) (cs:List AV),vs.size=cs.length->(∀(k:Nat) (v:Value) (x:AV),vs[k]?=some v->cs[k]?=some x->x.fv i xs=x)->cs.map (AV.fv i xs)=cs:=λvs cs hl ih=>by
  refine xL λk=>?_;rw[zS];cases hx:cs[k]? with
  |none=>rfl
  |some x=>
   have hk:k<vs.size:=by rw[hl];exact(zB.1 hx).1
   rw[wG,ih k vs[k] x (by simp[hk]) hx]
 induction h with
 |agg vs cs hl h ih=>rw[q12,key vs cs hl ih]
 |tup vs cs hl h ih=>rw[d0c,key vs cs hl ih]
 |fn f vs us ys zs hl h hl' h' ih ih'=>rw[z2h,key vs ys hl ih,key us zs hl' ih']
 |_=>simp[AV.fv]
def C5{H:List AObj}{xs ys:List AV}(h:Q0 (xs.map (Q8 []))=some ys):Q0 (xs.map (Q8 H))=some ys:=by
 induction xs generalizing ys with
 |nil=>exact h
 |cons x xs ih=>
  simp only[xC]at h |-;cases hx:Q8 [] x with
  |none=>rw[hx]at h;cases h
  |some y=>
   rw[hx]at h;have:Q8 H x=some y:=by cases x<;>first|exact hx|(simp[Q8]at hx)
   rw[this];simp only[Q0]at h |-;obtain⟨zs,hz,rfl⟩:=zP.1 h;rw[ih hz];rfl
section
variable {P:Program} [Env P] {nt k:Nat} {Q:Exit->AS->Prop} {W0 w:World} {I0 I:Nat->Prop} {m:Nat->Option Nat} {H:List AObj}
def VR.fv(hw:WS W0 I0 w I m H){i:Nat}{xs ys:List AV}(za:Q0 (xs.map (Q8 []))=some ys)(hi:H[i]?=some (.vars xs)){v:Value}{x:AV}(h:VR w I m H.length v x):
  VR w (λb=>I b\/m i=some b) m H.length v (x.fv i ys):=by
 have z6:Ext w w I (λb=>I b\/m i=some b):=⟨λ_ h=> .inl h,λ_ _=>rfl⟩
 have z8:i<H.length:=(zB.1 hi).1
 -- the other objects set aside
 have z1:∀(id:Nat) (o:AObj),((yB H.length AObj.dead).set i (.vars xs))[id]?=some o->(id=i/\o= .vars xs)\/o= .dead:=λid o ho=>by
  by_cases hid:id=i
  ·subst hid;rw[zK (by simpa using z8)]at ho;exact .inl ⟨rfl,(Option.some.inj ho).symm⟩
  rw[zE (by omega),vD]at ho;split at ho
  ·exact .inr (Option.some.inj ho).symm
  cases ho
 have zb:WS W0 I0 w I m ((yB H.length AObj.dead).set i (.vars xs)):=by
  refine⟨hw.below,hw.i0,hw.iw,λid o ho=>?_,λid o b ho hl hm=>?_,λa b oa ob d ha hb la lb ma mb=>?_⟩
  ·rcases z1 id o ho with⟨rfl,rfl⟩|rfl
   ·have:=hw.obj _ _ hi;simpa using this
   trivial
  ·rcases z1 id o ho with⟨rfl,rfl⟩|rfl
   ·exact hw.own _ _ b hi rfl hm
   cases hl
  rcases z1 a oa ha with⟨rfl,rfl⟩|rfl
  ·rcases z1 b ob hb with⟨rfl,rfl⟩|rfl
   ·rfl
   cases lb
  cases la
 have z7:∀b,u0x I m ((yB H.length AObj.dead).set i (.vars xs)) b->I b\/m i=some b:=λb hb=>by
  rcases hb with hb|⟨id,o,ho,hl,hm⟩
  ·exact .inl hb
  rcases z1 id o ho with⟨rfl,rfl⟩|rfl
  ·exact .inr hm
  cases hl
 induction h with
 |pure h=>rw[c1h i ys h];exact .pure (h.mono z6)
 |agg vs cs hl h ih=>rw[q12];refine .agg vs _ (by simpa using hl) λj v x hv hx=>?_;rw[zS]at hx;obtain⟨y,hy,rfl⟩:=zP.1 hx;exact ih j v y hv hy
 |tup vs cs hl h ih=>rw[d0c];refine .tup vs _ (by simpa using hl) λj v x hv hx=>?_;rw[zS]at hx;obtain⟨y,hy,rfl⟩:=zP.1 hx;exact ih j v y hv hy
 |fn f vs us ps qs hl h hl' h' ih ih'=>
  rw[z2h];refine .fn f vs us _ _ (by simpa using hl) (λj v x hv hx=>?_) (by simpa using hl') (λj v x hv hx=>?_)
  ·rw[zS]at hx;obtain⟨y,hy,rfl⟩:=zP.1 hx;exact ih j v y hv hy
  rw[zS]at hx;obtain⟨y,hy,rfl⟩:=zP.1 hx;exact ih' j v y hv hy
 |vptr id off b hn hb=>
  rw[w1k];have hv:VR w I m H.length _ _:= .vptr id off b hn hb;split
  ·rename_i hc;subst hc;have:=Yj zb (by simpa using hv) (y:= .iptr (ys.drop off)) (by
    simp only[Wu,zK (show id<(yB H.length AObj.dead).length by simpa using z8)];rw[C5 za];rfl)
   exact .pure (this.mono ⟨z7,λ_ _=>rfl⟩)
  exact .vptr id off b hn hb
 |ept id c' j off b hn hb=>rw[d1a];exact .ept id c' j off b hn hb
 |yld id b hn hb=>rw[f1w];exact .yld id b hn hb
 |mref id b hn hb=>rw[y1e];exact .mref id b hn hb
 |opt p x h1 h2 ih=>rw[f1x];exact .opt p _ ih h2
 |sl id c' lo len cap b t hn hb hs hl hmax=>rw[g1n];exact .sl id c' lo len cap b t hn hb hs hl hmax
 |slnone id c' hn hb=>rw[g1n];exact .slnone id c' hn hb
 |slend id c' lo a hn hlo=>rw[g1n];exact .slend id c' lo a hn hlo
def M7{i:Nat}{ys:List AV}{t:Nat}{x:AV}:∀ {sl:List (Nat×AV)},look (sl.map λp=>(p.1,p.2.fv i ys)) t=some x->∃y,look sl t=some y/\x=y.fv i ys
 |[],hx=>by cases hx
 |(t',y)::r,hx=>by
  simp only[xC,look]at hx |-;split
  ·rename_i e;subst e;simp at hx;exact⟨y,rfl,hx.symm⟩
  rename_i e;rw[if_neg e]at hx;exact M7 hx
def Yv.fv(hw:WS W0 I0 w I m H){i:Nat}{xs ys:List AV}(z6:Q0 (xs.map (Q8 []))=some ys)(hi:H[i]?=some (.vars xs)){b? :Option Nat}{o:AObj}(h:Yv w I m H.length b? o):
  Yv w (λb=>I b\/m i=some b) m H.length b? (o.fv i ys):=by
 have z1:Ext w w I (λb=>I b\/m i=some b):=⟨λ_ h=> .inl h,λ_ _=>rfl⟩
 cases o with
 |vars cs=>obtain⟨b,t,vs,e1,hh,hl,hr⟩:=h;refine⟨b,t,vs,e1,hh,by simpa using hl,λj v x hv hx=>?_⟩;rw[zS]at hx;obtain⟨y,hy,rfl⟩:=zP.1 hx;exact(hr j v y hv hy).fv hw z6 hi
 |arr e' c' zs=>
  rcases h with h|⟨b,cap,vs,e1,hh,h1,h2,h3,h4,hr⟩
  ·exact .inl h
  exact .inr ⟨b,cap,vs,e1,hh,h1,h2,h3,h4,λi x hx j y hy=>by obtain⟨v,hv,hp⟩:=hr i x hx j y hy;exact⟨v,hv,hp.mono z1⟩⟩
 |it left cur=>obtain⟨r,bm,es,ck,since,seen,c0,e1,hh,hI,hm,h1,h2,h3,h4,h5,hr,z7⟩:=h;exact⟨r,bm,es,ck,since,seen,c0,e1,hh,.inl hI,hm,h1,h2,h3,h4,h5,λi x p a d=>⟨(hr i x p a d).1.mono z1,(hr i x p a d).2.mono z1⟩,λp hp=>by obtain⟨e2,sn,q1,q2,q3,q4,q5⟩:=z7 p hp;exact⟨e2,sn,q1,q2,q3,q4.mono z1,q5.mono z1⟩⟩
 |va e' c' zs=>
  rcases h with⟨h7,h8⟩|⟨b,cap,vs,e1,hh,h1,h2,h3,h4,hr⟩
  ·exact .inl ⟨h7,by rw[h8];rfl⟩
  refine .inr ⟨b,cap,vs,e1,hh,by simpa using h1,h2,h3,λx hx=>?_,λk x hx j y hy=>?_⟩
  ·obtain⟨z,hz,rfl⟩:=zQ.1 hx;rw[z0q,yO];exact h4 z hz
  rw[zS]at hx;obtain⟨z,hz,rfl⟩:=zP.1 hx;rw[z0q,zS]at hy;obtain⟨u,hu,rfl⟩:=zP.1 hy;obtain⟨v,hv,hp⟩:=hr k z hz j u hu;exact⟨v,hv,hp.fv hw z6 hi⟩
 |dead=>trivial
 |fm kvs=>obtain⟨b,es,ck,e1,hI,hh,hl,hr⟩:=h;exact⟨b,es,ck,e1,.inl hI,hh,hl,λi x p a d=>⟨(hr i x p a d).1.mono z1,(hr i x p a d).2.mono z1⟩⟩
 |tag j t=>exact h
 |lp rdy pend nt sl ps asg body=>obtain⟨b,r,e1,hh,q1,q2,q3,q4,q5,q6,q7⟩:=h;refine⟨b,r,e1,hh,q1,q2,q3,q4,q5,q6,λt x hx=>?_⟩;obtain⟨y,hy,rfl⟩:=M7 hx;obtain⟨v,hv,hr⟩:=q7 t y hy;exact⟨v,hv,hr.fv hw z6 hi⟩
 |mp kvs=>obtain⟨b,es,ck,e1,hh,hl,hr⟩:=h;exact⟨b,es,ck,e1,hh,hl,λi x p a d=>⟨(hr i x p a d).1.mono z1,(hr i x p a d).2.mono z1⟩⟩
 |mv kvs=>obtain⟨b,es,ck,e1,hh,hl,hr⟩:=h;refine⟨b,es,ck,e1,hh,⟨by simpa using hl.size,hl.born,hl.nodup⟩,λi x p a d=>?_⟩;rw[zS]at d;obtain⟨q,hq,rfl⟩:=zP.1 d;exact⟨(hr i x q a hq).1.mono z1,(hr i x q a hq).2.fv hw z6 hi⟩
def St.freezeV{C:Cx P}{a:Act}{w:World}{sl:List (Nat×AV)}{H:List AObj}(hs:St C nt k ⟨sl,H⟩ a w)(i:Nat){xs ys:List AV}(z7:Q0 (xs.map (Q8 []))=some ys)(hi:H[i]?=some (.vars xs)):
  St C nt k ⟨sl.map λp=>(p.1,p.2.fv i ys),(H.set i .dead).map (AObj.fv i ys)⟩ a w:=by
 obtain⟨I,m,hw,z8,hk,hf⟩:=hs;have za:Ext w w I (λb=>I b\/m i=some b):=⟨λ_ h=> .inl h,λ_ _=>rfl⟩
 have hlen:((H.set i .dead).map (AObj.fv i ys)).length=H.length:=by simp
 have z6:∀(id:Nat) (o:AObj),((H.set i .dead).map (AObj.fv i ys))[id]?=some o->o.live=true->id≠i/\∃o',H[id]?=some o'/\o=o'.fv i ys/\o'.live=true:=λid o ho hl=>by
  rw[zS]at ho;obtain⟨o',z1,rfl⟩:=zP.1 ho;by_cases hid:id=i
  ·subst hid;rw[zK (zB.1 hi).1]at z1;cases z1;simp[AObj.fv,AObj.live]at hl
  rw[zE (by omega)]at z1;exact⟨hid,o',z1,rfl,by cases o'<;>exact hl⟩
 refine⟨λb=>I b\/m i=some b,m,⟨hw.below,λb hb=> .inl (hw.i0 b hb),λb hb=>?_,λid o ho=>?_,λid o b ho hl hm=>?_,λa b oa ob d ha hb la lb ma mb=>?_⟩,⟨z8.1,z8.2.1,λt x hx=>?_⟩,by rw[hlen];exact hk,hf.trans hk ⟨za,λ_ _=>rfl,λ_ _ h=>h⟩⟩
 ·rcases hb with hb|hb
  ·exact hw.iw b hb
  have:=hw.own i _ b hi rfl hb;exact⟨this.2.2,.inr this.1⟩
 ·rw[hlen];by_cases hl:o.live=true
  ·obtain⟨_,o',z1,rfl,_⟩:=z6 id o ho hl;exact(hw.obj id o' z1).fv hw z7 hi
  rw[zS]at ho;obtain⟨o',z1,rfl⟩:=zP.1 ho;by_cases hid:id=i
  ·subst hid;rw[zK (zB.1 hi).1]at z1;cases z1;trivial
  rw[zE (by omega)]at z1;cases o' with
  |vars cs=>exact absurd rfl hl
  |arr e c xs=>exact absurd rfl hl
  |dead=>trivial
  |tag j t=>exact hw.obj id _ z1
  |lp rdy pend nt sl ps asg body=>exact absurd rfl hl
  |mp kvs=>exact absurd rfl hl
  |va e c xs=>exact absurd rfl hl
  |it left cur=>exact absurd rfl hl
  |fm kvs=>exact(hw.obj id _ z1).fv hw z7 hi
  |mv kvs=>exact absurd rfl hl
 ·obtain⟨zb,o',z1,rfl,hl'⟩:=z6 id o ho hl;have h1:=hw.own id o' b z1 hl' hm;refine⟨h1.1,λhc=>?_,h1.2.2⟩;rcases hc with hc|hc
  ·exact h1.2.1 hc
  exact zb (hw.inj id i o' _ b z1 hi hl' rfl hm hc)
 ·obtain⟨_,zc,zd,_,ze⟩:=z6 a oa ha la;obtain⟨_,zf,zg,_,zh⟩:=z6 b ob hb lb;exact hw.inj a b zc zf d zd zg ze zh ma mb
 rw[hlen];have:=M7 hx;obtain⟨y,hy,rfl⟩:=this;obtain⟨v,hv,hr⟩:=z8.2.2 t y hy;exact⟨v,hv,hr.fv hw z7 hi⟩
def U8{wr:Bool}{ops:Array Oper}{o:Oper}{R:AS->Prop}{sl:List (Nat×AV)}{H:List AObj}(i:Nat){xs ys:List AV}(z1:Q0 (xs.map (Q8 []))=some ys)(hi:H[i]?=some (.vars xs))(h:Q9 P nt k wr ops o ⟨sl.map λp=>(p.1,p.2.fv i ys),(H.set i .dead).map (AObj.fv i ys)⟩ R):Q9 P nt k wr ops o ⟨sl,H⟩ R:=
 λC a w K Q hs=>h C a w K Q (hs.freezeV i z1 hi)
end
attribute [simp] y1e f1w q12 d0c z2h q26 x2y x2x w20 c11 z2r q2p w2f y2z v2v x2g w1k d1a g1n f1x AObj.fv
end
section
open Go.RowKit Go.ChangeShapes Go.WideShapes
section
variable {H:Type} {enc:TypeId×Value->H} {P:Program} [Env P] {T:TT} {W:World}
def TOk.cellsOf(hT:TOk P T){t:TypeId}{i:TI}(h:look T t=some i):P.cellsOf t=i.size:=by obtain⟨j,hj,_,hs,_⟩:=TOk.info hT h;simp[Program.cellsOf,hj,hs]
def TOk.bytesOf(hT:TOk P T){t:TypeId}{i:TI}(h:look T t=some i):P.bytesOf t=i.bytes:=by obtain⟨j,hj,_,_,hs⟩:=TOk.info hT h;simp[Program.bytesOf,hj,hs]
def y1w(i:TI)(zs:List AV):AV:=if i.agg then .agg zs else zs.headD .top
def f1p(R:TypeId->List AV->Prop):List TypeId->List AV->Prop
 |[],ys=>ys=[]
 |t::ts,ys=>∃zs rest,ys=zs++rest/\R t zs/\f1p R ts rest
def g2f(R:List AV->Prop):Nat->List AV->Prop
 |0,ys=>ys=[]
 |n+1,ys=>∃zs rest,ys=zs++rest/\R zs/\g2f R n rest
def Ba(T:TT)(R:TypeId->List AV->Prop)(i:TI)(ys:List AV):Prop:=match i.desc with
 | .bool=>∃b,ys=[.bool b]
 | .int k=>∃n,ys=[.int k n]/\k.min<=n/\n<=k.max
 | .string=>∃s:List UInt8,ys=[.str s]/\s.length<=reachBytes
 | .slice e=>∃ei xs,look T e=some ei/\ys=[.list xs]/\xs.length * ei.bytes<=reachBytes/\∀x∈xs,∃zs,x=y1w ei zs/\R e zs
 | .struct fs=>f1p R (fs.toList.map (·.type)) ys
 | .array n e=>g2f (R e) n ys
 |_=>False
def Shp(T:TT):Nat->TypeId->List AV->Prop
 |0,_,_=>False
 |d+1,t,ys=>match look T t with
  |some i=>Ba T (Shp T d) i ys
  |none=>False
def Ng(T:TT):List Field->Nat->Nat->Bool
 |[],off,size=>off==size
 |f::fs,off,size=>f.offset==off && (match look T f.type with
  |some i=>Ng T fs (off+i.size) size
  |none=>false)
def Ov(T:TT):Nat->TypeId->Bool
 |0,_=>false
 |d+1,t=>match look T t with
  |some i=>match i.desc with
   | .bool| .int _| .string=>i.size==1
   | .slice e=>i.size==1 && Ov T d e && (match look T e with
    |some ei=>(ei.agg || ei.size==1) && decide (0<ei.size)
    |none=>false)
   | .struct fs=>Ng T fs.toList 0 i.size && fs.toList.all λf=>Ov T d f.type
   | .array n e=>Ov T d e && (match look T e with
    |some ei=>i.size==n * ei.size
    |none=>false)
   |_=>false
  |none=>false
def Ps(W:World)(cs:List Value)(ys:List AV):Prop:=cs.length=ys.length/\∀(j:Nat) (v:Value) (y:AV),cs[j]?=some v->ys[j]?=some y->PVR W (·<W.heap.size) v y
def Ps.one{v:Value}{y:AV}(h:PVR W (·<W.heap.size) v y):Ps W [v] [y]:=by
 refine⟨rfl,λj u z hu hz=>?_⟩;rcases j with _|j
 ·simp only[wB,Option.some.injEq]at hu hz;subst hu;subst hz;exact h
 simp at hu
def Ps.app{cs cs':List Value}{ys ys':List AV}(h:Ps W cs ys)(h':Ps W cs' ys'):Ps W (cs++cs') (ys++ys'):=by
 refine⟨by simp[h.1,h'.1],λj u z hu hz=>?_⟩;rw[List.getElem?_append]at hu hz;rw[h.1]at hu;split at hu
 ·rename_i hj;rw[if_pos hj]at hz;exact h.2 j u z hu hz
 rename_i hj;rw[if_neg hj]at hz;exact h'.2 _ u z hu hz
def Ub{α β:Type}{f:α->Option β}{a:α}{l:List α}{r:List β}(h:(a::l).mapM f=some r):∃b bs,f a=some b/\l.mapM f=some bs/\r=b::bs:=by rw[List.mapM_cons]at h;simp only[Option.pure_def,Option.bind_eq_bind,xA,Option.some.injEq]at h;obtain⟨b,hb,bs,z1,rfl⟩:=h;exact⟨b,bs,hb,z1,rfl⟩
def Goal(enc:TypeId×Value->H)(P:Program)(T:TT)(W:World)(d:Nat)(t:TypeId):Prop:=∀(fuel:Nat) (cs:List Value) (x:DataW H×List MemPlace),
 DataW.trod enc P W 0 (λ_=>true) true fuel t cs=some x->(∀n∈x.1.weights P t,n<=reachBytes)->∃ys,Shp T d t ys/\Ps W cs ys
def Hj(hT:TOk P T){d:Nat}:∀(fs:List Field) (off size:Nat) (cs:List Value),Ng T fs off size=true->cs.length=size->(∀f∈fs,Goal enc P T W d f.type)->∀(fuel:Nat) (xs:List (DataW H×List MemPlace)),
  (fs.mapM λf=>DataW.trod enc P W 0 (λ_=>true) true fuel f.type ((cs.drop f.offset).take (P.cellsOf f.type)))=some xs->(∀n∈DataW.weightsEach P (fs.map (·.type)) (xs.map (·.1)),n<=reachBytes)->
  ∃ys,f1p (Shp T d) (fs.map (·.type)) ys/\Ps W (cs.drop off) ys
 |[],off,size,cs,hc,hl,_,fuel,xs,h,_=>by simp only[Ng,beq_iff_eq]at hc;refine⟨[],rfl,?_⟩;rw[tf (by omega)];exact⟨rfl,by simp⟩
 |f::fs,off,size,cs,hc,hl,hg,fuel,xs,h,hw=>by
  simp only[Ng,yF,beq_iff_eq]at hc;obtain⟨z1,hc⟩:=hc;split at hc
  ·rename_i i hi;obtain⟨b,bs,hb,z6,rfl⟩:=Ub h;simp only[xC,DataW.weightsEach,zT]at hw;have z7:P.cellsOf f.type=i.size:=TOk.cellsOf hT hi;rw[z1,z7]at hb;obtain⟨zs,z8,za⟩:=hg f (by simp) fuel _ b hb (λn hn=>hw n (.inl hn));obtain⟨rest,zb,zc⟩:=Hj hT fs (off+i.size) size cs hc hl (λg zd=>hg g (by simp[zd])) fuel bs z6 (λn hn=>hw n (.inr hn));refine⟨zs++rest,⟨zs,rest,rfl,z8,zb⟩,?_⟩;have:cs.drop off=(cs.drop off).take i.size++cs.drop (off+i.size):=by rw[<-tZ,xO]
   rw[this];exact za.app zc
  cases hc
def Zd{d:Nat}{e:TypeId}{c:Nat}(hg:Goal enc P T W d e):∀(n s:Nat) (cs:List Value),cs.length=(s+n) * c->∀(fuel:Nat) (xs:List (DataW H×List MemPlace)),
  ((ue s n).mapM λi=>DataW.trod enc P W 0 (λ_=>true) true fuel e ((cs.drop (i * c)).take c))=some xs->(∀k∈DataW.weightsAll P e (xs.map (·.1)),k<=reachBytes)->
  ∃ys,g2f (Shp T d e) n ys/\Ps W (cs.drop (s * c)) ys
 |0,s,cs,hl,fuel,xs,h,_=>by refine⟨[],rfl,?_⟩;rw[tf (by rw[hl];simp)];exact⟨rfl,by simp⟩
 |n+1,s,cs,hl,fuel,xs,h,hw=>by
  rw[uk]at h;obtain⟨b,bs,hb,z1,rfl⟩:=Ub h;simp only[xC,DataW.weightsAll,zT]at hw;obtain⟨zs,z6,z7⟩:=hg fuel _ b hb (λk hk=>hw k (.inl hk));obtain⟨rest,z8,za⟩:=Zd hg n (s+1) cs (by rw[hl];congr 1;omega) fuel bs z1 (λk hk=>hw k (.inr hk));refine⟨zs++rest,⟨zs,rest,rfl,z6,z8⟩,?_⟩;have:cs.drop (s * c)=(cs.drop (s * c)).take c++cs.drop ((s+1) * c):=by rw[yJ,t_,<-tZ,xO]
  rw[this];exact z7.app za
def L3{d:Nat}{e:TypeId}{c:Nat}(hg:Goal enc P T W d e){a:Addr}(fuel:Nat):∀(n s:Nat) (xs:List (DataW H×List MemPlace)),
  ((ue s n).mapM λi=>(W.cells? 0 (a.add (i * c)) c).bind (DataW.trod enc P W 0 (λ_=>true) true fuel e))=some xs->(∀k∈DataW.weightsAll P e (xs.map (·.1)),k<=reachBytes)->
  ∃z1:List (List AV),z1.length=n/\(∀ys∈z1,Shp T d e ys/\ys.length=c)/\∀i ys,z1[i]?=some ys->∃cs,W.cells? 0 (a.add ((s+i) * c)) c=some cs/\Ps W cs ys
 |0,s,xs,h,_=>⟨[],rfl,by simp,by simp⟩
 |n+1,s,xs,h,hw=>by
  rw[uk]at h;obtain⟨b,bs,hb,za,rfl⟩:=Ub h;simp only[xC,DataW.weightsAll,zT]at hw;obtain⟨cs,z7,hb⟩:=xA.1 hb;obtain⟨zs,zb,z8⟩:=hg fuel _ b hb (λk hk=>hw k (.inl hk));obtain⟨z1,h1,h2,h3⟩:=L3 hg fuel n (s+1) bs za (λk hk=>hw k (.inr hk));have zc:=(World.cells?_some z7).2.1;refine⟨zs::z1,by simp[h1],λys z6=>?_,λi ys hi=>?_⟩
  ·rcases zX.1 z6 with rfl|z6
   ·exact⟨zb,by rw[<-z8.1,zc]⟩
   exact h2 ys z6
  rcases i with _|i
  ·simp only[wB,Option.some.injEq]at hi;subst hi;exact⟨cs,by simpa using z7,z8⟩
  obtain⟨zd,h4,h5⟩:=h3 i ys (by simpa using hi);exact⟨zd,by rw[show s+(i+1)=s+1+i by omega];exact h4,h5⟩
def c1g{a:Addr}{v:Value}(h:W.cell? a=some v):a.block<W.heap.size:=by
 rcases Nat.lt_or_ge a.block W.heap.size with h'|h'
 ·exact h'
 simp[World.cell?,Array.getElem?_eq_none h']at h
def k0d{ei:TI}{zs:List AV}(z1:ei.agg=true\/zs.length=1)(hl:ei.agg=false->∀z∈zs,z.cells=[z]):(y1w ei zs).cells=zs:=by
 unfold y1w;split
 ·rfl
 rename_i h;have h':ei.agg=false:=by simpa using h
 rcases z1 with h1|h1
 ·rw[h1]at h';cases h'
 obtain⟨z,rfl⟩:=List.length_eq_one_iff.1 h1;exact hl h' z (by simp)
def Shp.leafs{d:Nat}{e:TypeId}{ei:TI}{ys:List AV}(h:Shp T d e ys)(he:look T e=some ei)(ha:ei.agg=false):∀z∈ys,z.cells=[z]:=by
 cases d with
 |zero=>exact h.elim
 |succ d=>
  unfold Shp at h;rw[he]at h;simp only[Ba]at h;unfold TI.agg at ha;split at h
  ·obtain⟨b,rfl⟩:=h;simp[AV.cells]
  ·obtain⟨n,rfl,_⟩:=h;simp[AV.cells]
  ·obtain⟨s,rfl,_⟩:=h;simp[AV.cells]
  ·obtain⟨_,xs,_,rfl,_⟩:=h;simp[AV.cells]
  ·rename_i hd;rw[hd]at ha;cases ha
  ·rename_i hd;rw[hd]at ha;cases ha
  exact h.elim
def Oz(hT:TOk P T):∀(d:Nat) (t:TypeId),Ov T d t=true->Goal enc P T W d t
 |0,_,hs=>by cases hs
 |d+1,t,hs=>by
  intro fuel cs x h hw;unfold Ov at hs;cases hi:look T t with
  |none=>rw[hi]at hs;cases hs
  |some i=>
   rw[hi]at hs;simp only at hs;have hu:=TOk.und hT hi;have hc:=TOk.cellsOf hT hi;cases fuel with
   |zero=>simp[DataW.trod]at h
   |succ fuel=>
    unfold DataW.trod at h;simp only[Shp,hi,Ba];have z1:∀ {q:TypeDesc},P.underlying t=some q->i.desc=q:=λhq=>by rw[hu]at hq;exact Option.some.inj hq
    split at h
    case h_1 b hq=>rw[z1 hq]at hs |-;simp only[Option.some.injEq]at h;exact⟨_,⟨b,rfl⟩,.one (.bool b)⟩
    case h_2 k k' n hq=>
     rw[z1 hq]at hs |-;split at h
     ·rename_i hk;obtain⟨rfl,hk⟩:=hk;simp only[Lit.wf,yF,decide_eq_true_eq]at hk;exact⟨_,⟨n,rfl,hk.1,hk.2⟩,.one (.int _ n)⟩
     cases h
    case h_4 s hq=>
     rw[z1 hq]at hs |-;split at h
     ·simp only[Option.some.injEq]at h;subst h;refine⟨_,⟨s.data.toList,rfl,hw _ (by simp[DataW.weights])⟩,.one ?_⟩;have:Value.string s= .string ⟨s.data.toList.toArray⟩:=by cases s;simp
      rw[this];exact .str _
     cases h
    case h_7 e hq=>
     rw[z1 hq]at hs |-;simp only[yF]at hs;obtain⟨⟨_,zf⟩,z6⟩:=hs;cases he:look T e with
     |none=>rw[he]at z6;cases z6
     |some ei=>exact⟨_,⟨ei,[],he,rfl,by simp,by simp⟩,.one (.list _ _ _ 0 _ (λ_ _=>undef) rfl (by simp) (by unfold maxLen;omega) (by simp) (λh0=>by simp at h0) (by simp))⟩
    case h_8 e a len cap hq=>
     rw[z1 hq]at hs |-;simp only[yF]at hs;obtain⟨⟨_,zf⟩,z6⟩:=hs;cases he:look T e with
     |none=>rw[he]at z6;cases z6
     |some ei=>
      rw[he]at z6;simp only[yF,Bool.or_eq_true,beq_iff_eq,decide_eq_true_eq]at z6;obtain⟨z6,hz⟩:=z6;have zd:=TOk.cellsOf hT he;have zh:=TOk.bytesOf hT he;rw[zd]at h;split at h
      ·rename_i hcap;simp only[xA,zP]at h;obtain⟨elems,ze,rest,_,rfl⟩:=h;simp only[DataW.weights,hq,zX,zT]at hw;rw[uD]at ze;obtain⟨zb,h1,h2,h3⟩:=L3 (Oz hT d e zf) fuel len 0 elems ze (λk hk=>hw k (.inr (.inl hk)));have hlen:elems.length=len:=by have:=mapM_some_length ze;simpa using this
       have za:∀ys∈zb,(y1w ei ys).cells=ys:=λys z7=>by have:=h2 ys z7;refine k0d (z6.imp_right λh=>by rw[this.2,h]) (λha=>this.1.leafs he ha)
       refine⟨_,⟨ei,zb.map (y1w ei),he,rfl,?_,λx hx=>?_⟩,.one ?_⟩
       ·have:=hw _ (.inl rfl);simp only[yO]at this |-;rw[zh]at this;rw[h1];refine yP (z_ _ ?_) this;omega
       ·obtain⟨ys,z7,rfl⟩:=zQ.1 hx;exact⟨ys,rfl,(h2 ys z7).1⟩
       refine .list (some a) len cap ei.size _ (λi j=>(((W.cells? 0 (a.add (i * ei.size)) ei.size).getD [])[j]?).getD undef) (by simp[h1]) (by simp[h1];exact hcap.2.1) hcap.2.2 (λx hx=>?_) (λh0=>?_) (λi x hx j y hy=>?_)
       ·obtain⟨ys,z7,rfl⟩:=zQ.1 hx;rw[za ys z7];exact(h2 ys z7).2
       ·have key:∀i j,i<(zb.map (y1w ei)).length->j<ei.size->W.cell? (a.add (i * ei.size+j))=some ((((W.cells? 0 (a.add (i * ei.size)) ei.size).getD [])[j]?).getD undef):=λi j zg hj=>by
         simp only[yO]at zg;obtain⟨cs,z8,hr⟩:=h3 i zb[i] (by simp[zg]);rw[xT]at z8;rw[z8,wA];obtain⟨_,q2,q3⟩:=World.cells?_some z8;have:=q3 j hj;rw[add_add]at this;rw[this];have zi:j<cs.length:=by omega
         simp[zi]
        refine⟨a,rfl,λ_=>?_,key⟩;have:=c1g (key 0 0 h0 hz)
        rwa [block_add]at this
       rw[zS]at hx;obtain⟨ys,z7,rfl⟩:=zP.1 hx;have hm:=zJ z7;rw[za ys hm]at hy;obtain⟨cs,z8,hr⟩:=h3 i ys z7;rw[xT]at z8;rw[z8,wA];have hj:j<cs.length:=by rw[hr.1];exact(zB.1 hy).1
       have:=hr.2 j cs[j] y (by simp[hj]) hy;simpa[hj]using this
      cases h
    case h_9 cs _ _ fs hq=>
     rw[z1 hq]at hs |-;simp only[yF,zZ]at hs;split at h
     ·rename_i hl;rw[hc]at hl;obtain⟨xs,zc,rfl⟩:=zP.1 h;simp only[DataW.weights,hq]at hw;obtain⟨ys,h1,h2⟩:=Hj hT fs.toList 0 i.size cs hs.1 hl (λf hf=>Oz hT d f.type (hs.2 f hf)) fuel xs zc hw;exact⟨ys,h1,by simpa using h2⟩
     cases h
    case h_10 cs _ _ n e hq=>
     rw[z1 hq]at hs |-;simp only[yF]at hs;cases he:look T e with
     |none=>rw[he]at hs;cases hs.2
     |some ei=>
      rw[he]at hs;simp only[beq_iff_eq]at hs;have zd:=TOk.cellsOf hT he;split at h
      ·rename_i hl;rw[hc,hs.2]at hl;obtain⟨xs,zc,rfl⟩:=zP.1 h;simp only[DataW.weights,hq]at hw;rw[zd,uD]at zc;obtain⟨ys,h1,h2⟩:=Zd (Oz hT d e hs.1) n 0 cs (by simpa using hl) fuel xs zc hw;exact⟨ys,h1,by simpa using h2⟩
      cases h
    all_goals first
     |(cases h;done)
     |(rename_i hq;rw[z1 hq]at hs;cases hs;done)
     |(rename_i hq _;rw[z1 hq]at hs;cases hs;done)
     |(rename_i hq _ _;rw[z1 hq]at hs;cases hs;done)
     |skip
def U0(T:TT)(d:Nat):List TypeId->List AV->Prop
 |[],xs=>xs=[]
 |t::ts,xs=>∃i zs rest,look T t=some i/\xs=y1w i zs::rest/\Shp T d t zs/\U0 T d ts rest
def y16 (hT:TOk P T) {d:Nat} {t:TypeId} (hs:Ov T d t=true) {r:Reach} {base:Nat} {v:Value} (z1:Value.okWide P W r base t v) {D:DataW H} {ps:List MemPlace} (h:DataW.Trod enc P W 0 (λ_=>true) true t v D ps)
  (hw:∀n∈D.weights P t,n<=reachBytes):∃i zs,look T t=some i/\Shp T d t zs/\PVR W (·<W.heap.size) v (y1w i zs):=by
 obtain⟨fuel,hf⟩:=h;obtain⟨ys,h1,h2⟩:=Oz hT d t hs fuel _ _ hf hw;cases d with
 |zero=>cases hs
 |succ d=>
  have z6:=h1;unfold Shp at h1;cases hi:look T t with
  |none=>rw[hi]at h1;exact h1.elim
  |some i=>
   rw[hi]at h1;have hu:=TOk.und hT hi;refine⟨i,ys,rfl,z6,?_⟩;unfold Value.okWide at z1;rw[hu]at z1;unfold y1w;by_cases ha:i.agg=true
   ·rw[if_pos ha];unfold TI.agg at ha;have:∃cs,v= .agg cs:=by
     split at ha
     ·rename_i hd;rw[hd]at z1;obtain⟨cs,hc,_⟩:=z1;exact⟨cs,hc⟩
     ·rename_i hd;rw[hd]at z1;obtain⟨cs,hc,_⟩:=z1;exact⟨cs,hc⟩
     cases ha
    obtain⟨cs,rfl⟩:=this;exact .agg cs ys (by simpa[Value.cells]using h2.1) (λj u y hu hy=>h2.2 j u y (by simpa[Value.cells]using hu) hy)
   rw[if_neg ha];have z7:∃y,ys=[y]:=by
    simp only[Ba]at h1;unfold TI.agg at ha;split at h1
    ·obtain⟨b,rfl⟩:=h1;exact⟨_,rfl⟩
    ·obtain⟨b,rfl,_⟩:=h1;exact⟨_,rfl⟩
    ·obtain⟨b,rfl,_⟩:=h1;exact⟨_,rfl⟩
    ·obtain⟨_,xs,_,rfl,_⟩:=h1;exact⟨_,rfl⟩
    ·rename_i hd;rw[hd]at ha;exact absurd rfl ha
    ·rename_i hd;rw[hd]at ha;exact absurd rfl ha
    exact h1.elim
   obtain⟨y,rfl⟩:=z7;have z8:∀cs,v≠ .agg cs:=by
    rintro cs rfl;have hcell:Cell.okWide P W r base t (.agg cs):=by
     unfold TI.agg at ha;split at z1
     ·rename_i heq;rw[Option.some.inj heq]at ha;exact absurd rfl ha
     ·rename_i heq;rw[Option.some.inj heq]at ha;exact absurd rfl ha
     exact z1
    simp only[Ba]at h1;unfold Cell.okWide at hcell;rw[hu]at hcell;split at h1;all_goals first|(exact h1.elim)|skip
    all_goals (rename_i hd;rw[hd]at hcell)
    all_goals first|(simp[Cell.ok,hu,hd]at hcell;done)|skip
   have za:v.cells.toList=[v]:=by cases v<;>first|rfl|exact absurd rfl (z8 _)
   rw[za]at h2;exact h2.2 0 v y rfl rfl
def V5(hT:TOk P T){d:Nat}{r:Reach}{base:Nat}:∀(ts:List TypeId) (vs:List Value) (ds:List (DataW H)) (ps:List MemPlace),ts.all (Ov T d)=true->DataW.TrodAll enc P W 0 (λ_=>true) true ts vs ds ps->
  (∀(j:Nat) t v,ts[j]?=some t->vs[j]?=some v->Value.okWide P W r base t v)->(∀n∈DataW.weightsEach P ts ds,n<=reachBytes)->
  ds.length=ts.length/\∃xs,U0 T d ts xs/\vs.length=xs.length/\∀(j:Nat) (v:Value) (x:AV),vs[j]?=some v->xs[j]?=some x->PVR W (·<W.heap.size) v x
 |[],vs,ds,ps,_,h,_,_=>by obtain⟨rfl,rfl,_⟩:=trodAll_nil h;exact⟨rfl,[],rfl,rfl,by simp⟩
 |t::ts,vs,ds,ps,hs,h,z1,hw=>by
  obtain⟨v,z6,D,z7,p,q,rfl,rfl,rfl,h0,h1⟩:=trodAll_cons h;simp only[uC,yF]at hs;simp only[DataW.weightsEach,zT]at hw;obtain⟨i,zs,g1,g2,g3⟩:=y16 hT hs.1 (z1 0 t v rfl rfl) h0 (λn hn=>hw n (.inl hn));obtain⟨k0,xs,k1,k2,k3⟩:=V5 hT ts z6 z7 q hs.2 h1 (λj t v a b=>z1 (j+1) t v (by simpa using a) (by simpa using b)) (λn hn=>hw n (.inr hn));refine⟨by simp[k0],y1w i zs::xs,⟨i,zs,xs,g1,rfl,g2,k1⟩,by simp[k2],λj u x hu hx=>?_⟩;rcases j with _|j
  ·simp only[wB,Option.some.injEq]at hu hx;subst hu;subst hx;exact g3
  exact k3 j u x (by simpa using hu) (by simpa using hx)
def Aw(hl:laidOutB P=true){W':World}{sp:Nat->Bool}:∀(ts:List TypeId) (vs:List Value) (ds:List (DataW H)) (ps:List MemPlace),(ts.all λt=>P.readableRec t && decide (t<P.types.size))=true->
  DataW.TrodAll enc P W 0 (λ_=>true) true ts vs ds ps->(∀p∈ps,W.sameAt W' p)->(∀p∈ps,sp p.block=true)->DataW.TrodAll enc P W' 0 sp true ts vs ds ps
 |[],vs,ds,ps,_,h,_,_=>by obtain⟨rfl,rfl,rfl⟩:=trodAll_nil h;rfl
 |t::ts,vs,ds,ps,hr,h,z1,hsp=>by
  obtain⟨v,z6,D,z7,p,q,rfl,rfl,rfl,h0,h1⟩:=trodAll_cons h;simp only[uC,yF,decide_eq_true_eq]at hr;exact⟨p,q,WideElems.Trod_stays hl hr.1.1 hr.1.2 h0 (λx hx=>z1 x (by simp[hx])) (λx hx=>hsp x (by simp[hx])),
   Aw hl ts z6 z7 q hr.2 h1 (λx hx=>z1 x (by simp[hx])) (λx hx=>hsp x (by simp[hx])),rfl⟩
def x0u {fn:Func} {s:ChangeSpec} {apart fresh handsOn again:Bool} {W':World} {args:Array Value} {ds:List (DataW H)} {before:List MemPlace} {tb:TypeId} (hl:laidOutB P=true)
  (z6:fn.resultTypes= #[tb]) (hb:P.underlying tb=some .bool) (z7:(fn.params.toList.all λt=>P.readableRec t && decide (t<P.types.size))=true) (z1:s.vars=[])
  (z8:s.fn H ds={ results:=[.lit (.bool true)],args:=ds })
  (hW:DataW.Whole enc P fn.params.toList s.vars apart W args.toList ds [] before) (zb:Below W.heap.size W W'):s.post enc P fn apart fresh handsOn again W args (.bool true) W':=by
 have za:=hW.lt;have zc:=hW;obtain⟨p,q,hA,hV,rfl,hz,hn⟩:=hW;rw[z1]at hV;obtain⟨_,rfl⟩:=trodVars_none hV;simp only[xG]at zc za hz hn;have hst:∀sp:Nat->Bool,(∀x∈p,sp x.block=true)->DataW.TrodAll enc P W' 0 sp true fn.params.toList args.toList ds p:=λsp ze=>Aw hl _ _ _ _ z7 hA (λx hx=>zb.same (za x hx)) ze;have hold:∀x∈p,(λb=>decide (b<W.heap.size)) x.block=true:=λx hx=>by simpa using za x hx
 have zd:∀(b:Nat) (sp:Nat->Bool) (hd:Bool),DataW.TrodAll enc P W' b sp hd fn.resultTypes.toList ((Value.bool true).resultList fn.resultTypes.size) (s.fn H ds).results []:=λb sp hd=>by rw[z6,z8];exact trodAll_mk1 (shut_bool hb true)
 refine⟨ds,[],p,[],p,[],zc,by simpa using zd _ _ _,by simpa[z8]using hst _ hold,by rw[xG,z8,z1];rfl,World.keptBut_mono (λx hx=>⟨hx,.inr (.inl hx)⟩) (zb.frame (·∈p)),λ_=>?_⟩;refine⟨ok_one z6 rfl (okWide_bool_mk hb true),_,[],([]++p)++[],⟨[]++p,[],trodAll_append (by simpa[z8]using hst _ (λ_ _=>rfl)) (by simpa using zd _ _ _),by rw[z1];rfl,rfl,?_,?_⟩,?_⟩
 ·intro b off hp;simp only[vU,xG]at hp;have zf:=za _ hp;rw[zb.frozen zf];exact hz b off hp
 ·intro ha;simpa using hn ha
 intro x hx _;simpa using hx
def j0v (hT:TOk P T) (hl:laidOutB P=true) {f:FuncId} {fn:Func} {d:Nat} {tb:TypeId} (z8:fn.resultTypes= #[tb]) (hb:P.underlying tb=some .bool)
  (z7:(fn.params.toList.all λt=>P.readableRec t && decide (t<P.types.size))=true) (z1:fn.params.toList.all (Ov T d)=true)
  (hE:EOK P W (·<W.heap.size)) (zc:∀xs,U0 T d fn.params.toList xs->PC P f xs (λr=>r= .bool true)) {s:ChangeSpec} (z6:s.vars=[])
  (zd:∀ds:List (DataW H),ds.length=fn.params.toList.length->s.fn H ds={ results:=[.lit (.bool true)],args:=ds }) {apart fresh handsOn again:Bool}
  {base:Nat} {args:Array Value} {ds gs:List (DataW H)} {before:List MemPlace} (za:∀(j:Nat) t v,fn.params[j]?=some t->args[j]?=some v->Value.okWide P W .any base t v)
  (hW:DataW.Whole enc P fn.params.toList s.vars apart W args.toList ds gs before) {vt:List TypeId} (ze:vt=[]) (zb:(DataW.weightsEach P (fn.params.toList++vt) (ds++gs)).all (·<=reachBytes)=true):
  Calls P f args W λe W'=>∃v,e= .returned v/\s.post enc P fn apart fresh handsOn again W args v W':=by
 have zf:=hW;obtain⟨p,q,hA,hV,rfl,hz,hn⟩:=hW;rw[z6]at hV;obtain⟨rfl,rfl⟩:=trodVars_none hV;rw[ze,xG,xG]at zb;have hw:∀n∈DataW.weightsEach P fn.params.toList ds,n<=reachBytes:=λn hn=>by simpa using zZ.1 zb n hn
 obtain⟨hlen,xs,hx,zg,zh⟩:=V5 hT fn.params.toList args.toList ds p z1 hA (λj t v a b=>za j t v (by simpa using a) (by simpa using b)) hw;refine((zc xs hx).2 W (·<W.heap.size) args hE (λ_ h=>h) (by simpa using zg) (λj v x a b=>zh j v x (by simpa using a) b)).mono ?_;rintro e W' ⟨v,I',r,rfl,rfl,zi,_,_,hv⟩;cases hv;exact⟨_,rfl,x0u hl z8 hb z7 z6 (zd ds hlen) (by simpa using zf) zi⟩
end
end
section
open Go.RowKit
section
variable {P:Program} [Env P] {T:TT} {nt k:Nat} {S:AS} {ops:Array Oper} {o:Oper} {R:AS->Prop}
@[simp] def byteAV (c:UInt8):AV:= .int .u8 c.toNat
def q0d (hT:TOk P T) {wr:Bool} (hw:Qs ops S o=some true) {x:Operand} {src dst e:TypeId} (ho:o.op= .convert src dst x) {it ei idst:TI} (ht:look T src=some it) (hit:it.desc= .slice e) (he:look T e=some ei) (ze:ei.desc= .int .u8)
  (z8:look T dst=some idst) (hid:idst.desc= .string) {xv:AV} (hx:rho S.sl x=some xv) {s:List UInt8} (hs:Fk S.hp xv=some (s.map byteAV)) (hd:Wm nt o=true) (hR:R (S.putD o.dst (.str s))):Q9 P nt k wr ops o S R:=λC a w K Q hst hK=>by
 unfold OpW;rw[if_pos (hst.wanted hw)];obtain⟨I,m,zb,zc,hk,hE⟩:=hst;obtain⟨ao,cap,u,zd,hcell,zf⟩:=Ad zb (Qq zc hx) hs;have z1:=hT.und ht;rw[hit]at z1;have z6:=hT.und he;rw[ze]at z6;have z7:=hT.und z8;rw[hid]at z7;rw[yO]at zd hcell;have za:(convert src dst (a.eval x)).run P w= .ok (.string ⟨s.toArray⟩) w:=by
  rw[zd];rcases vB s.length with h0|h0
  ·have zg:=ws h0;subst zg;cases ao with
   |none=>rw[run_convert_bytes_string w src dst e none _ cap z1 z6 z7];simp[Conv.bytesToString];rfl
   |some ad=>exact run_convert_bytes_back w src dst e ad cap [] z1 z6 z7 (λj hj=>by simp at hj)
  obtain⟨ad,rfl,c,zh,zi⟩:=hcell h0;refine run_convert_bytes_back w src dst e ad cap s z1 z6 z7 (λj hj=>?_);have hc:c=1:=by rw[<-zh (byteAV s[0]) (zQ.2 ⟨s[0],zL h0,rfl⟩)];rfl
  subst hc;have h1:=zi j 0 hj (by omega);rw[Nat.mul_one,Nat.add_zero]at h1;have h2:=zf j (byteAV s[j]) (by simp[hj]) 0 (byteAV s[j]) rfl;rw[h1];have h3:u j 0= .int .u8 (s[j]).toNat:=(VR.pure (m:=m) (n:=0) h2).int_inv;rw[h3]
 unfold wpA;have:(execOp a.eval o).run P w= .ok (.value (.string ⟨s.toArray⟩)) w:=by simp only[execOp,ho];rw[Sem.run_bind,za];rfl
 rw[this];exact hK _ _ w hR (St.value zc hk hE zb (Fut.refl _ _ _ _) (zR _) (Qm hd) (.pure (.str _))) (λ_=>Tn.refl w)
end
end
section
open Go.RowKit
def AV.val:AV->Option Value
 | .bool b=>some (.bool b)
 | .int k n=>some (.int k n)
 | .str s=>some (.string ⟨s.toArray⟩)
 |_=>none
def PVR.val{w:World}{I:Nat->Prop}{v u:Value}{x:AV}(h:PVR w I v x)(hx:x.val=some u):v=u:=by cases x<;>simp[AV.val]at hx<;>subst hx<;>cases h<;>rfl
end
section
open Go.RowKit
section
variable {P:Program} [Env P] {T:TT} {nt k:Nat} {Q:Exit->AS->Prop} {S:AS} {ops:Array Oper} {o:Oper} {R:AS->Prop}
def y1d {wr:Bool} (hw:Qs ops S o=some true) (hd:Wm nt o=true) {r:AV}
  (h:∀(W0:World) (I0:Nat->Prop) (w:World) (I:Nat->Prop) (m:Nat->Option Nat) (a:Act),WS W0 I0 w I m S.hp->E2 nt S.sl a w I m S.hp.length->
   ∃v,(execOp a.eval o).run P w= .ok (.value v) w/\VR w I m S.hp.length v r) (hR:R (S.putD o.dst r)):Q9 P nt k wr ops o S R:=λC a w K Q hst hK=>by
 unfold OpW;rw[if_pos (hst.wanted hw)];obtain⟨I,m,z6,z7,hk,hE⟩:=hst;obtain⟨v,z1,hv⟩:=h _ _ w I m a z6 z7;unfold wpA;rw[z1];exact hK _ _ w hR (St.value z7 hk hE z6 (Fut.refl _ _ _ _) (zR _) (Qm hd) hv) (λ_=>Tn.refl w)
end
end
section
open Go.RowKit
section
variable {W0 w:World} {I0 I:Nat->Prop} {m:Nat->Option Nat} {H:List AObj}
def WS.addI(h:WS W0 I0 w I m H){l:Nat}(h1:l<w.heap.size)(h2:W0.heap.size<=l)(h3:∀(id:Nat) (o:AObj),H[id]?=some o->o.live=true->m id≠some l):WS W0 I0 w (λb=>I b\/b=l) m H:=by
 have hf:Fut H.length w I m w (λb=>I b\/b=l) m:=⟨⟨λ_ h=> .inl h,λ_ _=>rfl⟩,λ_ _=>rfl,λ_ _ h=>h⟩
 refine⟨h.below,λb hb=> .inl (h.i0 b hb),λb hb=>?_,λid o ho=>(h.obj id o ho).mono hf (zR _) (λ_ _ _=>rfl),λid o b ho hl hm=>?_,h.inj⟩
 ·rcases hb with hb|rfl
  ·exact h.iw b hb
  exact⟨h1,.inr h2⟩
 have:=h.own id o b ho hl hm;refine⟨this.1,λhc=>?_,this.2.2⟩;rcases hc with hc|rfl
 ·exact this.2.1 hc
 exact h3 id o ho hl hm
def WS.revive (h:WS W0 I0 w I m H) {q l:Nat} {o':AObj} (ho:H[q]?=some .dead) (hm:m q=some l) (h1:l<w.heap.size) (h2:W0.heap.size<=l) (hI:¬I l) (h3:∀(id:Nat) (o:AObj),H[id]?=some o->o.live=true->m id≠some l)
  (hO:Yv w I m H.length (some l) o'):WS W0 I0 w I m (H.set q o'):=by
 have hq:q<H.length:=(zB.1 ho).1;have z1:∀(k:Nat) (p:AObj),(H.set q o')[k]?=some p->(k≠q/\H[k]?=some p)\/(k=q/\p=o'):=λk p hp=>by
  by_cases hk:k=q
  ·subst hk;rw[zK hq]at hp;exact .inr ⟨rfl,(Option.some.inj hp).symm⟩
  rw[zE (by omega)]at hp;exact .inl ⟨hk,hp⟩
 refine⟨h.below,h.i0,h.iw,λk p hp=>?_,λk p c hp lp mc=>?_,λi j oi oj c hi hj li lj mi mj=>?_⟩
 ·rw[wT];rcases z1 k p hp with⟨_,h5⟩|⟨rfl,rfl⟩
  ·exact h.obj k p h5
  rw[hm];exact hO
 ·rcases z1 k p hp with⟨_,h5⟩|⟨rfl,rfl⟩
  ·exact h.own k p c h5 lp mc
  rw[hm]at mc;cases mc;exact⟨h2,hI,h1⟩
 rcases z1 i oi hi with⟨a1,a2⟩|⟨rfl,rfl⟩
 ·rcases z1 j oj hj with⟨b1,b2⟩|⟨rfl,rfl⟩
  ·exact h.inj i j oi oj c a2 b2 li lj mi mj
  rw[hm]at mj;cases mj;exact absurd mi (h3 i oi a2 li)
 rcases z1 j oj hj with⟨b1,b2⟩|⟨rfl,rfl⟩
 ·rw[hm]at mi;cases mi;exact absurd mj (h3 j oj b2 lj)
 rfl
end
def E7:List (Nat×AV)->List Tmp->List AV->List (Nat×AV)
 |sl,p::ps,x::xs=>E7 (put sl p x) ps xs
 |sl,_,_=>sl
def Ay{w:World}{I:Nat->Prop}{m:Nat->Option Nat}{n nt:Nat}:∀(ps:List Tmp) (xs:List AV) (vs:List Value) (sl:List (Nat×AV)) (tm:Array Value),ps.length=xs.length->vs.length=xs.length->(ps.all λp=>decide (p<nt))=true->
  (∀(i:Nat) (v:Value) (x:AV),vs[i]?=some v->xs[i]?=some x->VR w I m n v x)->tm.size=nt->(∀(t:Nat) (x:AV),look sl t=some x->∃v,tm[t]?=some v/\VR w I m n v x)->
  ((ps.zip vs).foldl (λ(tm:Array Value) (p:Tmp×Value)=>tm.setIfInBounds p.1 p.2) tm).size=nt/\∀(t:Nat) (x:AV),look (E7 sl ps xs) t=some x->∃v,((ps.zip vs).foldl (λ(tm:Array Value) (p:Tmp×Value)=>tm.setIfInBounds p.1 p.2) tm)[t]?=some v/\VR w I m n v x
 |[],_,_,sl,tm,_,_,_,_,h1,h2=>⟨h1,h2⟩
 |p::ps,[],_,_,_,hl,_,_,_,_,_=>by cases hl
 |p::ps,x::xs,[],_,_,_,hl,_,_,_,_=>by cases hl
 |p::ps,x::xs,v::vs,sl,tm,z1,z6,hp,hv,h1,h2=>by
  simp only[uC,yF,decide_eq_true_eq]at hp;simp only[List.zip_cons_cons,List.foldl_cons,E7];refine Ay ps xs vs (put sl p x) _ (by simpa using z1) (by simpa using z6) hp.2 (λi v x a b=>hv (i+1) v x a b) (by simpa using h1) (λt y hy=>?_);rw[F7]at hy;by_cases ht:t=p
  ·subst ht;rw[if_pos rfl]at hy;cases hy;exact⟨v,by simp[h1,hp.1],hv 0 v _ rfl rfl⟩
  rw[if_neg ht]at hy;obtain⟨u,hu,hr⟩:=h2 t y hy;exact⟨u,by rw[Array.getElem?_setIfInBounds_ne (Ne.symm ht)];exact hu,hr⟩
section
variable {P:Program} [Env P] {T:TT} {nt k:Nat} {S:AS} {ops:Array Oper} {o:Oper} {R:AS->Prop}
def Nk(q:Nat)(Rr:Option Code->List AObj->Prop):Exit->AS->Prop
 | .normal,S=>S.hp[q]?=some .dead/\Rr none S.hp
 | .ret,S=>S.hp[q]?=some .dead/\Rr (some .ret) S.hp
 | .exit id,S=>S.hp[q]?=some .dead/\Rr (some (.exit id)) S.hp
 |_,_=>False
def Vh{a:Act}{w:World}{cf:Operand}{args:Array Operand}{ts:Array TypeId}(ho:o.op= .call ⟨.value cf,args,ts⟩){l:Nat}(hf:a.eval cf= .func (.yield l) #[] #[]){r:Loop}(hr:w.heap[l]?=some (.loop r))(hs:args.size=r.params.size):
  (execOp a.eval o).run P w= .ok (.round l r.fn ((r.params.zip (args.map a.eval)).foldl (λtmps (t,a)=>tmps.setIfInBounds t a) r.tmps) r.assign r.body) w:=by
 have:=run_yield (P:=P) (args:=args.map a.eval) hr (by simpa using hs);simp only[execOp,ho,resolve,hf,Deferred.ofValue,invoke];simp[this]
def Rn {cf:Operand} {args:Array Operand} {ts:Array TypeId} (hw:Qs ops S o=some true) (ho:o.op= .call ⟨.value cf,args,ts⟩) {q:Nat} (zv:rho S.sl cf=some (.yld q)) {xs:List AV} (zw:Q0 (args.toList.map (rho S.sl))=some xs)
  {zc:Nat} {sl':List (Nat×AV)} {ps:List Tmp} {asg body:Code} (zl:S.hp[q]?=some (.lp true none zc sl' ps asg body)) (hlen:ps.length=xs.length) (zx:(ps.all λp=>decide (p<zc))=true) (hd:Wm nt o=true)
  (Rr:Option Code->List AObj->Prop)
  (z8:AWP P zc S.hp.length asg (P0 (AWP P zc S.hp.length body (Nk q Rr)) (λ_ _=>False)) ⟨E7 sl' ps xs,S.hp.set q .dead⟩)
  (hR:∀(jump:Option Code) (H':List AObj),Rr jump H'->R (({ S with hp:=H'.set q (.lp jump.isNone jump zc sl' ps asg body) }:AS).putD o.dst (.bool jump.isNone))):Q9 P nt k true ops o S R:=λC a w K Q hst hK=>by
 unfold OpW;rw[if_pos (hst.wanted hw)];obtain⟨I,m,zg,zm,hk,hE⟩:=hst;obtain⟨l,zh,hq,zy⟩:=(Qq zm zv).yld_inv;obtain⟨e5,e6⟩:=Zs (g:=true) rfl zm zw;obtain⟨b,r,hb,hh,q1,q2,q3,q4,q5,q6,q7⟩:=zg.obj q _ zl;obtain rfl:l=b:=by rw[zh]at hb;exact Option.some.inj hb
 obtain⟨o1,o2,o3⟩:=zg.own q _ l zl rfl zh;have zz:args.size=r.params.size:=by rw[q3];simp at e5 |-;omega
 unfold wpA;rw[Vh ho zy hh zz];simp only[g1u];have zd:(r.params.zip (args.map a.eval)).foldl (λtmps (t,a)=>tmps.setIfInBounds t a) r.tmps=(ps.zip (args.map a.eval).toList).foldl (λ(tm:Array Value) (p:Tmp×Value)=>tm.setIfInBounds p.1 p.2) r.tmps:=by rw[q3,<-Array.foldl_toList,Array.toList_zip]
 rw[zd];obtain⟨s1,s2⟩:=Ay (w:=w) (I:=I) (m:=m) (n:=S.hp.length) ps xs (args.map a.eval).toList sl' r.tmps hlen (by simpa using e5) zx (λi v x hv hx=>e6 i v x (by simpa using hv) hx) q6 q7;generalize y8:(ps.zip (args.map a.eval).toList).foldl (λ(tm:Array Value) (p:Tmp×Value)=>tm.setIfInBounds p.1 p.2) r.tmps=TM at *
 refine roundIn_of_wpIn trivial ?_;obtain⟨f1,f2⟩:=zg.freeze zl rfl zh;rw[q4,q5];have zn:∀b,I b->b≠l:=λb hb e=>o2 (e▸hb);refine wpIn_mono (z8 ⟨C.W0,C.I0,w,λc=>I c\/c=l,m,C.hE,some l⟩ { tmps:=TM,defers:=[] } w ⟨_,m,f1,⟨s1,trivial,λt x hx=>by
  obtain⟨v,hv,hr⟩:=s2 t x hx;exact⟨v,hv,by simpa using hr.mono f2 (zR _)⟩⟩,by simp,⟨.refl _ _ _ _,(λh=>(by cases h)),λl' hl'=>by cases hl';exact⟨.inr rfl,r,hh⟩⟩⟩) ?_
 rintro e a2 w2 ⟨S2,hQ,I2,m2,g1,g2,g3,g4⟩;cases e with
 |normal=>
  have z6:I2 l:=g4.fut.ext.sub l (.inr rfl);have zi:w2.heap[l]?=some (.loop r):=(g4.fut.ext.imm l (.inr rfl)).trans hh;have zq:l<w2.heap.size:=(yS.1 zi).1;refine⟨w2.putObj l (.loop { r with state:= .busy }),run_beginRound zi (by rw[q1];rfl),?_⟩;have zj:Shut w2 (w2.putObj l (.loop { r with state:= .busy })) I2 (·=l):=⟨World.putObj_size,λb hb=>World.putObj_heap_other hb,λb o hb ho=>by subst hb;rw[zi]at ho;cases ho;rfl,λb es ck hb hm=>by subst hb;rw[zi]at hm;cases hm⟩
  have y0:Below C.W0.heap.size w2 (w2.putObj l (.loop { r with state:= .busy })):=⟨rfl,rfl,rfl,by simp,λb hb=>World.putObj_heap_other (by omega)⟩
  have ze:∀b,b=l->¬C.I0 b:=λb hb h=>by subst hb;exact o2 (zg.i0 _ h)
  have y1:=g1.shut zj y0 ze (λb hb=>by subst hb;exact z6);have y2:∀(id:Nat) (o:AObj),S2.hp[id]?=some o->o.live=true->m2 id≠some l:=λid o ho hl hm=>(g1.own id o l ho hl hm).2.1 z6;have g1'':=y1.addI (l:=l) (by simpa using zq) o1 y2;have zo:(λb=>(I2 b/\¬b=l)\/b=l)=I2:=by
   funext b;apply propext;by_cases hb:b=l
   ·subst hb;simp[z6]
   simp[hb]
  rw[zo]at g1'';have y3:Fut S2.hp.length (w2.putObj l (.loop { r with state:= .busy })) (λb=>I2 b/\¬b=l) m2 (w2.putObj l (.loop { r with state:= .busy })) I2 m2:=⟨⟨λ_ h=>h.1,λ_ _=>rfl⟩,λ_ _=>rfl,λ_ _ h=>h⟩
  have zr:=g2.shut zj;have zt:(w2.putObj l (.loop { r with state:= .busy })).heap[l]?=some (.loop { r with state:= .busy }):=World.putObj_heap_same zq;refine wpIn_mono (hQ ⟨C.W0,C.I0,w2.putObj l (.loop { r with state:= .busy }),I2,m2,C.hE,some l⟩ a2 _ ⟨I2,m2,g1'',⟨zr.1,trivial,λt x hx=>by
   obtain⟨v,hv,hr⟩:=zr.2.2 t x hx;exact⟨v,hv,hr.mono y3 (zR _)⟩⟩,g3,⟨.refl _ _ _ _,(λh=>(by cases h)),λl' hl'=>by cases hl';exact⟨z6,_,zt⟩⟩⟩) ?_
  rintro e4 a4 w4 ⟨S4,z7,I4,m4,k1,k2,k3,k4⟩;have zf:I4 l:=k4.fut.ext.sub l z6;have zk:w4.heap[l]?=some (.loop { r with state:= .busy }):=(k4.fut.ext.imm l z6).trans zt;have zu:l<w4.heap.size:=(yS.1 zk).1;have key:∀jump:Option Code,S4.hp[q]?=some .dead->Rr jump S4.hp->∃v w',(Instr.endRound l jump).run P w4= .ok v w'/\K (a.put o.dst v) w':=λjump y4 y5=>by
   refine⟨_,_,run_endRound jump zk,?_⟩;generalize z1:({ ({ r with state:= .busy }:Loop)with state:=if jump.isNone=true then LoopState.ready else LoopState.done,pending:=jump }:Loop)=r5;have za:Shut w4 (w4.putObj l (.loop r5)) I4 (·=l):=⟨World.putObj_size,λb hb=>World.putObj_heap_other hb,λb o hb ho=>by subst hb;rw[zk]at ho;cases ho;rfl,λb es ck hb hm=>by subst hb;rw[zk]at hm;cases hm⟩
   have zp:Below C.W0.heap.size w4 (w4.putObj l (.loop r5)):=⟨rfl,rfl,rfl,by simp,λb hb=>World.putObj_heap_other (by omega)⟩
   have y6:=k1.shut za zp ze (λb hb=>by subst hb;exact zf);have zb:Fut S.hp.length w I m (w4.putObj l (.loop r5)) (λb=>I4 b/\¬b=l) m4:=by
    refine⟨⟨λb hb=>⟨k4.fut.ext.sub b (g4.fut.ext.sub b (.inl hb)),zn b hb⟩,λb hb=>?_⟩,λid hid=>?_,λb s hs=>?_⟩
    ·rw[za.same b (zn b hb),k4.fut.ext.imm b (g4.fut.ext.sub b (.inl hb)),zj.same b (zn b hb),g4.fut.ext.imm b (.inl hb)]
    ·exact(k4.fut.ids id hid).trans (g4.fut.ids id hid)
    exact(za.fut (m:=m) 0).shape _ _ (k4.fut.shape _ _ ((zj.fut (m:=m) 0).shape _ _ (g4.fut.shape _ _ hs)))
   have y7:m4 q=some l:=(zb.ids q hq).trans zh;have k1'':=y6.revive (o':= .lp jump.isNone jump zc sl' ps asg body) y4 y7 (by simpa using zu) o1 (λh=>h.2 rfl) (λid o ho hl hm=>(k1.own id o l ho hl hm).2.1 zf)
    ⟨l,r5,rfl,World.putObj_heap_same zu,by rw[<-z1],by rw[<-z1],by rw[<-z1];exact q3,by rw[<-z1];exact q4,by rw[<-z1];exact q5,by rw[<-z1];exact q6,λt x hx=>by
     obtain⟨v,hv,hr⟩:=q7 t x hx;exact⟨v,by rw[<-z1];exact hv,hr.mono zb k3⟩⟩
   exact hK _ _ _ (hR jump S4.hp y5) (St.value zm hk hE k1'' zb (by simpa using k3) (Qm hd) (.pure (.bool _))) (λh=>by cases h)
  cases e4 with
  |normal=>exact key none z7.1 z7.2
  |ret=>exact key (some .ret) z7.1 z7.2
  |exit id=>exact key (some (.exit id)) z7.1 z7.2
  |goto l=>exact z7.elim
  |panic c=>exact z7.elim
  |outgrown=>exact z7.elim
 |exit id=>exact hQ.elim
 |goto l=>exact hQ.elim
 |ret=>exact hQ.elim
 |panic c=>exact hQ.elim
 |outgrown=>exact hQ.elim
def Cy{P:Program}{a:Act}{w:World}{g:Operand}{l:Nat}{f:FuncId}{us:Array Value}(hg:a.eval g= .func (.func f) #[] us)(hc:Tl P f):
  ∃d:Deferred,(resolve a.eval (rangeCall g l) 0).run P w= .ok d w/\(invoke d.target d.args).run P w= .ok (.enter f (#[.func (.yield l) #[] #[]]++us)) w:=by
 obtain⟨fn,h1,h2,h3⟩:=hc;have z1:¬fn.name= "runtime.NumGoroutine" :=by simpa using h3
 refine⟨_,by simp only[resolve,hg];rfl,?_⟩;simp[Deferred.ofValue,invoke,callFunc,h1,z1,Act.eval];exact λhb=>absurd h2 (by simp[hb])
def u02{C:Cx P}{a:Act}{w:World}{I:Nat->Prop}{m:Nat->Option Nat}{fnum:FuncId}{ps:List Tmp}{asg body:Code}(hE:FutC C k a w I m):∃(l:Nat) (mark:List Nat) (w1:World) (r:Loop),(Instr.enterLoop fnum a.tmps ps.toArray asg body C.ro).run P w= .ok (l,mark.map Mc) w1/\Below w.heap.size w w1/\w.heap.size<=l/\l<w1.heap.size/\w1.heap[l]?=some (.loop r)/\
   r.state= .ready/\r.pending=none/\r.params=ps.toArray/\r.assign=asg/\r.body=body/\r.tmps=a.tmps/\mark.Nodup/\∀D∈mark,w.heap.size<=D/\D<w1.heap.size/\D≠l/\w1.heap[D]?=some (.deferred (some [])):=by
 cases hro:C.ro with
 |none=>
  refine⟨_,[w.heap.size],_,({ state:= .ready,pending:=none,fn:=fnum,tmps:=a.tmps,params:=ps.toArray,assign:=asg,body:=body,defers:=w.heap.size }:Loop),run_enterLoop_outer _ _ _ _ _,⟨rfl,rfl,rfl,by simp;omega,λb hb=>?_⟩,by omega,by simp,?_,rfl,rfl,rfl,rfl,rfl,rfl,by simp,λD hD=>?_⟩
  ·simp only[World.alloc,vL];rw[if_neg (by simp;omega),if_neg (by omega)]
  ·have:=World.alloc_heap_new (w.alloc (.deferred (some []))) (.loop { state:= .ready,pending:=none,fn:=fnum,tmps:=a.tmps,params:=ps.toArray,assign:=asg,body:=body,defers:=w.heap.size });rw[World.size_alloc]at this;exact this
  obtain rfl:=List.mem_singleton.1 hD;refine⟨zR _,by simp;omega,by omega,?_⟩;simp only[World.alloc,vL];simp
 |some l0=>obtain⟨_,r0,h0⟩:=hE.rnd l0 hro;refine⟨_,[],_,({ state:= .ready,pending:=none,fn:=fnum,tmps:=a.tmps,params:=ps.toArray,assign:=asg,body:=body,defers:=r0.defers }:Loop),run_enterLoop_inner h0 _ _ _ _ _,⟨rfl,rfl,rfl,by simp,λb hb=>?_⟩,zR _,by simp,World.alloc_heap_new _ _,rfl,rfl,rfl,rfl,rfl,rfl,by simp,λD hD=>by cases hD⟩;simp only[World.alloc,vL];rw[if_neg (by omega)]
def c00 {C:Cx P} {a:Act} {w w1 w3:World} {I I':Nat->Prop} {m m':Nat->Option Nat} {l:Nat} {mark:List Nat} {H':List AObj} {rdy:Bool} {pend:Option Code} {ze:Nat} {sl':List (Nat×AV)} {zf:List Tmp} {asg' body':Code}
  (z6:WS C.W0 C.I0 w I m S.hp) (z8:E2 nt S.sl a w I m S.hp.length) (hk:k<=S.hp.length) (hE:FutC C k a w I m) (zj:Below w.heap.size w w1) (zk:w.heap.size<=l) (zg:mark.Nodup)
  (z1:∀D∈mark,w.heap.size<=D/\D<w1.heap.size/\D≠l/\w1.heap[D]?=some (.deferred (some []))) (g2:Fut S.hp.length w I m w1 (λb=>I b\/b∈mark) (upd m S.hp.length (some l)))
  (k1:WS C.W0 C.I0 w3 I' m' H') (k2:S.hp.length+1<=H'.length) (k3:Fut (S.hp.length+1) w1 (λb=>I b\/b∈mark) (upd m S.hp.length (some l)) w3 I' m') (za:H'[S.hp.length]?=some (.lp rdy pend ze sl' zf asg' body')):
  ∃r3:Loop,w3.heap[l]?=some (.loop r3)/\r3.state≠ .busy/\r3.pending=pend/\St C nt k ⟨S.sl,H'.set S.hp.length .dead⟩ { a with defers:=mark.map Mc++a.defers } (w3.putObj l (.loop { r3 with state:= .exhausted })):=by
 obtain⟨b,r3,zb,z7,p1,p2,p3,p4,p5,p6,p7⟩:=k1.obj _ _ za;have zc:m' S.hp.length=some l:=(k3.ids _ (by omega)).trans (Q7 _ _ _);have zh:b=l:=by rw[zc]at zb;exact(Option.some.inj zb).symm
 rw[zh]at z7;refine⟨r3,z7,by rw[p1];cases rdy<;>simp,p2,?_⟩;generalize hO:Obj.loop { r3 with state:= .exhausted }=O;obtain⟨n1,n2⟩:=k1.set (w':=w3.putObj l O) (o':= .dead) za rfl zc (grownBy_putObj' _ _ _) (λs hs=>by
  unfold World.shape? at hs;rw[z7]at hs;cases hs) (λ_ _=>trivial)
 have hF:Fut S.hp.length w I m (w3.putObj l O) I' m':=(g2.trans (uh _) k3).trans (Nat.le_of_succ_le k2) n2;refine⟨I',m',n1,⟨z8.1,trivial,λt x hx=>?_⟩,by simp;omega,⟨hE.fut.trans hk hF,λzi=>?_,λl' hl'=>?_⟩⟩
 ·obtain⟨v,hv,hr⟩:=z8.2.2 t x hx;exact⟨v,hv,hr.mono hF (by simp;omega)⟩
 ·obtain⟨ds,d1,d2,d3⟩:=hE.defs zi;refine⟨mark++ds,by simp[d1],List.nodup_append.2 ⟨zg,d2,λx hx y hy e=>?_⟩,λD hD=>?_⟩
  ·subst e;have h1:=(z6.iw x (d3 x hy).1).1;have h2:=(z1 x hx).1;omega
  rcases zT.1 hD with hD|hD
  ·have zd:(λb=>I b\/b∈mark) D:= .inr hD;refine⟨k3.ext.sub D zd,⟨λhc=>?_,yP z6.below.size (z1 D hD).1⟩,?_⟩
   ·have h1:=(z6.iw D (hE.fut.ext.sub D hc)).1;have h2:=(z1 D hD).1;omega
   rw[World.putObj_heap_other (z1 D hD).2.2.1,k3.ext.imm D zd];exact(z1 D hD).2.2.2
  have:=d3 D hD;exact⟨hF.ext.sub D this.1,this.2.1,by rw[hF.ext.imm D this.1];exact this.2.2⟩
 obtain⟨h1,r',h2⟩:=hE.rnd l' hl';exact⟨hF.ext.sub l' h1,r',by rw[hF.ext.imm l' h1];exact h2⟩
set_option maxHeartbeats 2000000 in
def W5 {Q:Exit->AS->Prop} {g:Operand} {ps:List Tmp} {asg body:Code} {f:FuncId} {cs:List AV} (hg:rho S.sl g=some (.fn (.func f) [] cs)) {Rf:AV->List AObj->Prop}
  (hc:FC P f (.yld S.hp.length::cs) (S.hp++[.lp true none nt S.sl ps asg body]) Rf)
  (hR:∀(r:AV) (H':List AObj),Rf r H'->∃(rdy:Bool) (pend:Option Code) (zg:Nat) (sl':List (Nat×AV)) (zh:List Tmp) (z6 body':Code),H'[S.hp.length]?=some (.lp rdy pend zg sl' zh z6 body')/\
   (match pend with
   |none=>Q .normal ⟨S.sl,H'.set S.hp.length .dead⟩
   |some c=>AWP P nt k c Q ⟨S.sl,H'.set S.hp.length .dead⟩)):AWP P nt k (.rangeFunc g ps.toArray asg body) Q S:=λC a w hst=>by
 obtain⟨I,m,z8,za,hk,hE⟩:=hst;obtain⟨vs,us,zj,e1,e2,e3,e4⟩:=(Qq za hg).fn_inv;have zk:vs= #[]:=Array.eq_empty_of_size_eq_zero (by simpa using e1);subst zk;refine wpIn_rangeFunc (F:=FW C.ro) λfnum _=>?_
 -- what entering the loop lays
 have zc:=u02 (C:=C) (fnum:=fnum) (ps:=ps) (asg:=asg) (body:=body) hE;obtain⟨l,mark,w1,r,zd,ze,zi,zl,zm,q1,q2,q3,q4,q5,q6,zn,zb⟩:=zc;have g0:=z8.push' (I':=λb=>I b\/b∈mark) ze (λ_ h=> .inl h) (λb hb=>by
  rcases hb with hb|hb
  ·exact⟨x_ (z8.iw b hb).1 ze.size,.inl hb⟩
  exact⟨(zb b hb).2.1,.inr (zb b hb).1⟩) (some l) (λb hb=>by
  cases hb;exact⟨zi,zl,λhc=>by
   rcases hc with hc|hc
   ·have:=(z8.iw l hc).1;omega
   ·exact(zb l hc).2.2.1 rfl⟩) (.lp true none nt S.sl ps asg body) (λm' zo zw=>⟨l,r,rfl,zm,by rw[q1];rfl,q2,q3,q4,q5,by rw[q6];exact za.1,λt x hx=>by
   obtain⟨v,hv,hr⟩:=za.2.2 t x hx;exact⟨v,by rw[q6];exact hv,hr.mono zo (uh _)⟩⟩)
 obtain⟨g1,g2⟩:=g0;obtain⟨d,zp,zq⟩:=Cy (w:=w1) (l:=l) zj hc.1;refine⟨l,mark.map Mc,w1,d,w1,f,_,w1,zd,zp,λ_ _=>trivial,zq,(λh=>(by cases h)),Ll ?_⟩;have hlen:(S.hp++[AObj.lp true none nt S.sl ps asg body]).length=S.hp.length+1:=by simp
 refine(hc.2 C.W0 C.I0 w1 _ _ (#[.func (.yield l) #[] #[]]++us) C.hE g1 (by simp at e3 |-;omega) (λi v x hv hx=>?_)).mono ?_
 ·rcases i with _|i
  ·rw[yT (by simp)]at hv;simp at hv hx;subst hv;subst hx;exact .yld _ _ (by simp) (Q7 _ _ _)
  rw[vC (by simp)]at hv;simp at hv hx;exact(e4 i v x hv hx).mono g2 (by simp)
 rintro e w3 ⟨v,rv,H',I',m',zr,rfl,k1,k2,k3,k4⟩;rw[hlen]at k2 k3;obtain⟨rdy,pend,zg,sl',zh,z6,body',zt,z1⟩:=hR rv H' zr;obtain⟨r3,zu,zf,zv,z7⟩:=c00 z8 za hk hE ze zi zn zb g2 k1 k2 k3 zt;refine⟨pend,_,(run_endLoop zu zf).trans (congrArg (λx=>Result.ok x _) zv),?_⟩;cases pend with
 |none=>exact⟨_,z1,z7⟩
 |some c=>exact z1 C _ _ z7
end
end
section
open Go.Sort
def PVR.of_val{w:World}{I:Nat->Prop}{u:Value}{x:AV}(hx:x.val=some u):PVR w I u x:=by
 cases x<;>simp[AV.val]at hx<;>subst hx
 ·exact .bool _
 ·exact .int _ _
 exact .str _
structure RowOf (k:Nat) (xs:List AV) (F:Array Value):Prop where
 size:F.size=xs.length * k
 width:∀x∈xs,x.cells.length=k
 cell:∀(i:Nat) (x:AV),xs[i]?=some x->∀(j:Nat) (y:AV),x.cells[j]?=some y->y.val=some F[i * k+j]!
section
variable {W0:World} {I0:Nat->Prop} {w:World} {I:Nat->Prop} {m:Nat->Option Nat} {H:List AObj} {p b:Nat} {e:TypeId} {k:Nat} {xs:List AV} {F:Array Value}
def c0j(z6:WS W0 I0 w I m H)(ho:H[p]?=some (.arr e k xs))(hm:m p=some b)(hF:RowOf k xs F):Holds id w b 0 F/\b<w.heap.size:=by
 obtain⟨_,_,hb⟩:=z6.own p _ b ho rfl hm;refine⟨λj hj=>?_,hb⟩;rcases z6.obj p _ ho with⟨e1,_⟩|⟨b',cap,vs,z7,hh,q1,q2,q3,q4,hr⟩
 ·rw[hm]at e1;cases e1
 obtain rfl:b=b':=by rw[hm]at z7;exact Option.some.inj z7
 have hk:0<k:=by
  rcases vB k with h|h
  ·rw[hF.size,h]at hj;simp at hj
  exact h
 have z8:j<xs.length * k:=by rw[<-hF.size];exact hj
 have hi:j / k<xs.length:=Nat.div_lt_of_lt_mul (by rwa [tl]at z8);have hc:=hF.width _ (zL hi);have z1:j % k<(xs[j / k]).cells.length:=by rw[hc];exact sk _ hk
 have za:j / k * k+j % k=j:=by rw[tl];exact tY _ _
 obtain⟨v,hv,hp⟩:=hr (j / k) _ (zI hi) (j % k) _ (zI z1);have:=hp.val (hF.cell _ _ (zI hi) _ _ (zI z1));rw[za]at hv this;subst this;simp[World.cell?,World.frozen?,hh,hv]
def z1u(z8:WS W0 I0 w I m H)(ho:H[p]?=some (.arr e k xs))(hm:m p=some b)(hF:RowOf k xs F){z1:List AV}{F':Array Value}(hl:z1.length=xs.length)(z7:RowOf k z1 F')(n:Nat)(os:Array Obj):
  WS W0 I0 (grow (putRow id (Sort.ahead w n) b 0 F') os) I m (H.set p (.arr e k z1))/\Fut H.length w I m (grow (putRow id (Sort.ahead w n) b 0 F') os) I m:=by
 obtain⟨_,_,hb⟩:=z8.own p _ b ho rfl hm;rcases z8.obj p _ ho with⟨e1,_⟩|⟨b',cap,vs,zb,hh,q1,q2,q3,q4,hr⟩
 ·rw[hm]at e1;cases e1
 obtain rfl:b=b':=by rw[hm]at zb;exact Option.some.inj zb
 have z6:∀c,c<w.heap.size->(grow (putRow id (Sort.ahead w n) b 0 F') os).heap[c]? =if b=c then(w.heap[c]?).map (onCells (putCells id 0 F'))else w.heap[c]? :=by intro c hc;simp only[grow,putRow,mapBlock,Sort.ahead];rw[yT (by simpa using hc),Array.getElem?_modify]
 have zc:(grow (putRow id (Sort.ahead w n) b 0 F') os).heap[b]?=some (.cells (putCells id 0 F' vs) e (0,0)):=by rw[z6 b hb,if_pos rfl,hh];rfl
 have hg:w.grownBy (grow (putRow id (Sort.ahead w n) b 0 F') os) (some b):=⟨rfl,rfl,rfl,by simp[grow,putRow,mapBlock,Sort.ahead],λc hc zd=>by
  rw[z6 c hc,if_neg (λh=>zd (by rw[h]))]⟩
 refine z8.set (o':= .arr e k z1) ho rfl hm hg (λs hs=>?_) (λm' hf=> .inr ⟨b,cap,putCells id 0 F' vs,rfl,zc,by omega,q2,by simp[putCells,q3],z7.width,λi x hx j y hy=>?_⟩)
 ·simp only[World.shape?,hh]at hs;simp only[World.shape?,zc];simpa[putCells]using hs
 have hi:i<z1.length:=(zB.1 hx).1;have hj:j<k:=by have:=z7.width x (zJ hx);rw[<-this];exact(zB.1 hy).1
 have ze:i * k+j<z1.length * k:=by have:=z_ k (show i+1<=z1.length from hi);rw[yJ,t_]at this;omega
 have za:i * k+j<vs.size:=by rw[q3];have:=z_ k (show z1.length<=cap by omega);omega
 refine⟨F'[i * k+j]!,?_,PVR.of_val (z7.cell i x hx j y hy)⟩;have:=z7.size;simp only[putCells,Array.getElem?_mapIdx,Array.getElem?_eq_getElem za,wG];rw[if_pos (by omega)];rfl
def F9(v:Value)(us:List Value): #[v]++us.toArray=⟨v::us⟩:=by simp
def c0i {P:Program} [Env P] {f:FuncId} {rest:List AV} (hc:Tl P f) {len:Nat} (zb:xs.length=len) (ho:H[p]?=some (.arr e k xs)) (hF:RowOf k xs F)
  (us:List Value) (hu:∀(w:World) (I:Nat->Prop) (m:Nat->Option Nat) (vs:List Value),vs.length=rest.length->(∀(i:Nat) (v:Value) (x:AV),vs[i]?=some v->rest[i]?=some x->VR w I m H.length v x)->vs=us)
  (Rx:List AV->Prop)
  (h:∀(b cap:Nat) (w:World),Holds id w b 0 F->b<w.heap.size->len<=cap->Calls P f (#[.slice (some ⟨b,0,none⟩) len cap]++us.toArray) w λen w'=>en= .returned (.tuple #[])/\∃(z1:List AV) (F':Array Value) (n:Nat) (os:Array Obj),Rx z1/\z1.length=xs.length/\RowOf k z1 F'/\w'=grow (putRow id (Sort.ahead w n) b 0 F') os)
  (h0:xs=[]->Rx []/\∀(w:World),Calls P f (#[.slice none 0 0]++us.toArray) w λen w'=>en= .returned (.tuple #[])/\w'=w):
  FC P f (.sl p k 0 len::rest) H (λr H'=>r= .tup []/\∃z1,Rx z1/\H'=H.set p (.arr e k z1)):=by
 refine⟨hc,λW0 I0 w I m vals hE z6 z8 hv=>?_⟩;rcases vals with⟨vals⟩
 cases vals with
 |nil=>simp at z8
 |cons v vs=>
  have zc:vs=us:=hu w I m vs (by simpa using z8) λi v x a b=>hv (i+1) v x (by simpa using a) (by simpa using b);subst zc;have zd:=hv 0 v _ rfl rfl;have tupR:∀(w:World) (I:Nat->Prop) (m:Nat->Option Nat) (n:Nat),VR w I m n (.tuple #[]) (.tup []):=λw I m n=> .tup _ _ rfl (λi v x a=>by simp at a);rcases zd.sl_inv with⟨b,cap,t,hb,hn,zg,hle,hmax,z7⟩|⟨hb,hn,_,ze,z7⟩|⟨_,_,hlo,_,_⟩
  ·subst z7;obtain⟨g1,g2⟩:=c0j z6 ho hb hF;have:=h b cap w g1 g2 hle;simp only[uV];refine Calls.mono (by rw[F9]at this;exact this) ?_;rintro en w' ⟨rfl,z1,F',n,os,hx,hl,zf,rfl⟩;obtain⟨k1,k2⟩:=z1u z6 ho hb hF hl zf n os;exact⟨_,_,_,I,m,⟨rfl,z1,hx,rfl⟩,rfl,k1,by simp,k2,tupR _ _ _ _⟩
  ·subst z7;have za:xs=[]:=by cases xs with|nil=>rfl|cons=>simp at zb;omega
   obtain⟨r0,r1⟩:=h0 za;subst ze;refine Calls.mono (by have:=r1 w;rw[F9]at this;exact this) ?_;rintro en w' ⟨rfl,rfl⟩;refine⟨_,_,H,I,m,⟨rfl,[],r0,?_⟩,rfl,z6,zR _,.refl _ _ _ _,tupR _ _ _ _⟩;rw[<-za];exact(xL λi=>by
    by_cases hi:i=p
    ·subst hi;rw[ho,zK (zB.1 ho).1]
    rw[zE (λh=>hi h.symm)])
  omega
end
end
section
open Go.RowKit
section
variable {P:Program} [Env P] {nt k:Nat} {Q:Exit->AS->Prop}
def Q3 {c:Code} {sl:List (Nat×AV)} {H:List AObj} (t e sz:Nat) (ht:look sl t=some .nils)
  (h:AWP P nt k c Q ⟨put sl t (.sl H.length sz 0 0),H++[.arr e sz []]⟩):AWP P nt k c Q ⟨sl,H⟩:=λC a w hs=>by
 obtain⟨I,m,hw,z1,hk,hf⟩:=hs;obtain⟨g1,g2⟩:=hw.push (Below.refl _ _) none (λb e=>by cases e) (.arr e sz []) (λm' _ _=> .inl ⟨rfl,rfl⟩);refine h C a w ⟨I,upd m H.length none,g1,⟨z1.1,z1.2.1,λs x hx=>?_⟩,by simp at hk |-;omega,hf.trans hk g2⟩;simp only[F7]at hx;by_cases hst:s=t
 ·rw[if_pos hst]at hx;cases hx;obtain⟨v,hv,hr⟩:=z1.2.2 t _ ht;rw[hst];have:=hr.nils_inv;subst this;exact⟨_,hv,.slnone H.length sz (by simp) (Q7 ..)⟩
 rw[if_neg hst]at hx;obtain⟨v,hv,hr⟩:=z1.2.2 s x hx;refine⟨v,hv,?_⟩;have:=hr.mono (n':=(H++[AObj.arr e sz []]).length) g2 (by simp);simpa using this
end
end
end Go.Abs
