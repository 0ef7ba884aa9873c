/- Part Zb of the proof: steps on the way to the last part. No condition. -/
import Derived.Test.YtdcnaocpompcpaaGreatDoorZa
import Derived.Lib.SliceRun
import Derived.Laws.CopyRow
import Derived.Lib.AppendZeros
import Derived.Lib.Overlaps
import Derived.ProofKit
import Derived.OpenShut
import Derived.Carry
import Derived.Deep.DeepHandedRow
import Derived.Lib.ConvBytes
import Derived.Laws.BytesString
import Derived.Laws.IdiomStrings
import Derived.Lib.BufferRead
import Derived.Lib.AppendStr
import Derived.Lib.Builder
import Derived.Lib.UnsafeStr
import Derived.Laws.Externs
import Derived.RangeFuncOwn
import Derived.RangeFuncNested
set_option linter.all false
open List renaming getElem?_eq_some_iff->zD,getElem?_append_left->zK,getElem?_set_self->zJ,getElem?_set_ne->zI,getElem?_append_right->zF,length_append->zL,length_set->wj,getElem?_take->yJ,getElem?_drop->yX,range->xV,getElem?_range->vb,getElem?_map->zU,mem_iff_getElem?->xm,getElem_mem->yB,getElem?_eq_getElem->zG,all_eq_true->zV,mem_of_getElem?->zE,eq_nil_of_length_eq_zero->xi,length_nil->wH,size_toArray->yG,nil_append->wo,mem_append->xu,getElem?_toArray->wM,all_cons->wg,map_cons->z_,mem_map->xg,length_map->xp,ext_getElem?->xk,replicate->zH,getElem?_replicate->xt,take_zero->ux,take_of_length_le->zY,getElem?_append->yH,mem_singleton->xd,flatMap_cons->wt,length_cons->yQ,getElem?_cons_zero->xr,drop_eq_nil_of_le->xE,drop_drop->uz,take_append_drop->yN,range'->wK,range'_succ->wL,mem_cons->y_,range_eq_range'->vd,append_nil->xY,getD->uL,getElem?_eq_none->wb
open Nat renaming lt_of_lt_of_le->yZ,add_mul->yA,mul_le_mul_right->zZ,add_comm->wG,add_mul_mod_self_right->vz,mod_eq_of_lt->wn,eq_zero_or_pos->xz,le_refl->zR,zero_add->yW,eq_of_mul_eq_mul_right->xD,zero_mul->vx,zero_le->yO,min->xF,min_le_left->uy,min_le_right->uo,min_zero->uI,lt_or_ge->wa,one_mul->wW,le_trans->yD,mul_one->wY,add_zero->wy,le_succ->vF
open Option renaming getD_some->xQ,map_some->xU,map_eq_some_iff->zM,bind_eq_some_iff->yS
open Array renaming size_append->xq,getElem?_append_left->yK,getElem?_append_right->ww,mem_of_getElem?->wS,replicate->wD,getElem?_eq_some_iff->xl,getElem?_push->wZ
open Bool renaming and_eq_true->zX
set_option maxRecDepth 100000
namespace Go.Abs
open Go Go.RowKit
section
section
variable {P:Program} [Env P] {T:TT} {nt k:Nat} {S:AS} {ops:Array Oper} {o:Oper} {R:AS->Prop}
section
variable {W0 w w':World} {I0 I:Nat->Prop} {m:Nat->Option Nat} {H:List AObj}
def WS.adopt (h:WS W0 I0 w I m H) {id:Nat} {o o':AObj} {b:Nat} (ho:H[id]?=some o) (hl:o.live=true) (hm:m id=some b) (hg:w.grownBy w' (some b))
  (za:∀s,w.shape? b=some s->w'.shape? b=some s) (hO:∀m',Fut H.length w I m w' I m'->Uq w' I m' (H.length+1) (some b) o'):
  WS W0 I0 w' I (upd m H.length (some b)) (H.set id .dead++[o'])/\Fut H.length w I m w' I (upd m H.length (some b)):=by
 obtain⟨zb,z8,zc⟩:=h.own id o b ho hl hm;have hid:id<H.length:=(zD.1 ho).1;have hf:Fut H.length w I m w' I (upd m H.length (some b)):=⟨⟨λ_ h=>h,λc hc=>hg.block c (h.iw c hc).1 (λe=>z8 (by injection e with e;exact e▸hc))⟩,λ_ hid=>Yy hid,λc s hs=>by
  by_cases hcb:c=b
  ·subst hcb;exact za s hs
  rw[R6 (hg.block c (Sy hs) (λe=>hcb (by injection e)))];exact hs⟩
 have z1:∀(k:Nat) (p:AObj),(H.set id .dead++[o'])[k]?=some p->(k<H.length/\p= .dead)\/(k<H.length/\k≠id/\H[k]?=some p)\/(k=H.length/\p=o'):=λk p hp=>by
  rcases Nat.lt_trichotomy k H.length with h1|h1|h1
  ·rw[zK (by simpa using h1)]at hp;by_cases hk:k=id
   ·subst hk;rw[zJ h1]at hp;exact .inl ⟨h1,(Option.some.inj hp).symm⟩
   rw[zI (by omega)]at hp;exact .inr (.inl ⟨h1,hk,hp⟩)
  ·subst h1;rw[zF (by simp)]at hp;simp at hp;exact .inr (.inr ⟨rfl,hp.symm⟩)
  have:=(zD.1 hp).1;simp at this;omega
 refine⟨⟨h.below.grown hg h.below.size (λk hk=>by injection hk with hk;omega),h.i0,λc hc=>⟨yZ (h.iw c hc).1 hg.size,(h.iw c hc).2⟩,λk p hp=>?_,λk p c hp lp mc=>?_,λi j oi oj c hi hj li lj mi mj=>?_⟩,hf⟩
 ·rw[zL,wj,List.length_singleton];rcases z1 k p hp with⟨h1,rfl⟩|⟨h1,h2,h3⟩|⟨rfl,rfl⟩
  ·trivial
  ·rw[Yy h1];by_cases hlp:p.live=true
   ·exact(h.obj k p h3).mono hf (by omega) (λ_ c hc=>hg.block c (h.own k p c h3 hlp hc).2.2 (λe=>h2 (by injection e with e;subst e;exact h.inj k id p o c h3 ho hlp hl hc hm)))
   exact(h.obj k p h3).mono hf (by omega) (λhl'=>absurd hl' hlp)
  rw[Q6];exact hO _ hf
 ·rcases z1 k p hp with⟨h1,rfl⟩|⟨h1,h2,h3⟩|⟨rfl,rfl⟩
  ·simp[AObj.live]at lp
  ·rw[Yy h1]at mc;obtain⟨h3,h4,h5⟩:=h.own k p c h3 lp mc;exact⟨h3,h4,yZ h5 hg.size⟩
  rw[Q6]at mc;cases mc;exact⟨zb,z8,yZ zc hg.size⟩
 rcases z1 i oi hi with⟨h1,rfl⟩|⟨h1,h2,h3⟩|⟨rfl,rfl⟩
 ·simp[AObj.live]at li
 ·rcases z1 j oj hj with⟨g1,rfl⟩|⟨g1,g2,g3⟩|⟨rfl,rfl⟩
  ·simp[AObj.live]at lj
  ·rw[Yy h1]at mi;rw[Yy g1]at mj;exact h.inj i j oi oj c h3 g3 li lj mi mj
  rw[Yy h1]at mi;rw[Q6]at mj;cases mj;exact absurd (h.inj i id oi o b h3 ho li hl mi hm) h2
 rcases z1 j oj hj with⟨g1,rfl⟩|⟨g1,g2,g3⟩|⟨rfl,rfl⟩
 ·simp[AObj.live]at lj
 ·rw[Yy g1]at mj;rw[Q6]at mi;cases mi;exact absurd (h.inj j id oj o b g3 ho lj hl mj hm) g2
 rfl
def U3(H:List AObj):AV->Option (List AV)
 | .list ys=>some ys
 | .sl id c lo len=>match H[id]? with
  |some (.arr _ c' xs)=>if c=c'/\lo+len<=xs.length then some ((xs.drop lo).take len)else none
  |_=>none
 | .nils=>some []
 |_=>none
def Ou(hw:WS W0 I0 w I m H){v:Value}{x:AV}{ys:List AV}(hv:VR w I m H.length v x)(h:U3 H x=some ys):
  ∃(ao:Option Addr) (cap:Nat) (u:Nat->Nat->Value),v= .slice ao ys.length cap/\
   (0<ys.length->∃ad,ao=some ad/\∃c,(∀y∈ys,y.cells.length=c)/\∀i j,i<ys.length->j<c->w.cell? (ad.add (i * c+j))=some (u i j))/\
   (∀(i:Nat) (x:AV),ys[i]?=some x->∀(j:Nat) (y:AV),x.cells[j]?=some y->PVR w I (u i j) y):=by
 cases x with
 |list zs=>simp only[U3,Option.some.injEq]at h;subst h;obtain⟨a,cap,c,u,rfl,_,_,hc,ha,hu⟩:=hv.list_inv.list_inv;exact⟨a,cap,u,rfl,λh0=>by obtain⟨ad,e,_,hcell⟩:=ha h0;exact⟨ad,e,c,hc,hcell⟩,hu⟩
 |nils=>simp only[U3,Option.some.injEq]at h;subst h;obtain rfl:=hv.nils_inv;exact⟨none,0,λ_ _=>undef,rfl,λh0=>by simp at h0,λi x hx=>by simp at hx⟩
 |sl id c lo len=>
  simp only[U3]at h;split at h
  ·rename_i e c' xs ho;split at h
   ·rename_i hc;obtain⟨rfl,hl⟩:=hc;simp only[Option.some.injEq]at h;subst h;have hlen:((xs.drop lo).take len).length=len:=by simp;omega
    rcases hv.sl_inv with⟨b,cap,t,hb,hn,hs,hl',hmax,rfl⟩|⟨hb,hn,rfl,rfl,rfl⟩|⟨ad,hn,hlo,rfl,rfl⟩
    ·rcases hw.obj id _ ho with⟨e1,rfl⟩|⟨b',z1,vs,z8,hh,q1,q2,q3,q4,hr⟩
     ·rw[hb]at e1;cases e1
     obtain rfl:b=b':=by rw[hb]at z8;exact Option.some.inj z8
     refine⟨_,cap,λi j=>vs.getD ((lo+i) * c+j) undef,by rw[hlen],λ_=>⟨_,rfl,c,λx hx=>q4 x (List.mem_of_mem_drop (List.mem_of_mem_take hx)),λi j hi hj=>?_⟩,λi x hx j z hz=>?_⟩
     ·rw[hlen]at hi;rw[Addr.add_lit,cell_of_row w b _ vs e (0,0) hh];simp only[yA];have za:(lo+i) * c+j<vs.size:=by rw[q3];have:(lo+i+1) * c<=z1 * c:=zZ c (by omega);rw[yA (lo+i)]at this;omega
      rw[yA]at za;rw[show lo * c+(i * c+j)=lo * c+i * c+j by omega];simp[za]
     rw[yJ]at hx;split at hx
     ·rw[yX]at hx;obtain⟨v,hv,hp⟩:=hr (lo+i) x hx j z hz;simp only[Array.getD_eq_getD_getElem?,hv,xQ];exact hp
     cases hx
    ·exact⟨none,0,λ_ _=>undef,by rw[hlen],λh0=>by simp at h0,λi x hx=>by simp at hx⟩
    exact⟨some ad,0,λ_ _=>undef,by rw[hlen],λh0=>by simp at h0,λi x hx=>by simp at hx⟩
   cases h
  cases h
 |_=>simp[U3]at h
end
def Qm(u:Nat->Nat->Value)(n c:Nat):List Value:=(xV (n * c)).map λq=>u (q / c) (q % c)
def Qn(u:Nat->Nat->Value)(n c:Nat):(Qm u n c).length=n * c:=by simp[Qm]
def Th(u:Nat->Nat->Value)(n c i j:Nat)(hi:i<n)(hj:j<c):(Qm u n c)[i * c+j]?=some (u i j):=by
 have z1:i * c+j<n * c:=by have:(i+1) * c<=n * c:=zZ c hi;rw[yA]at this;omega
 have h1:(i * c+j) / c=i:=by rw[wG,Nat.add_mul_div_right _ _ (by omega),Nat.div_eq_of_lt hj];omega
 have h2:(i * c+j) % c=j:=by rw[wG,vz,wn hj]
 simp[Qm,vb z1,h1,h2]
def Ro(u:Nat->Nat->Value)(n c q:Nat)(v:Value)(h:(Qm u n c)[q]?=some v):q<n * c/\0<c/\q / c<n/\q % c<c/\q=q / c * c+q % c/\v=u (q / c) (q % c):=by
 have z1:q<n * c:=by have:=(zD.1 h).1;rwa [Qn]at this
 have hc:0<c:=by
  rcases xz c with h0|h0
  ·subst h0;simp at z1
  exact h0
 refine⟨z1,hc,(Nat.div_lt_iff_lt_mul hc).2 z1,Nat.mod_lt _ hc,by rw[Nat.mul_comm];exact(Nat.div_add_mod q c).symm,?_⟩;simp only[Qm,zU,vb z1,xU,Option.some.injEq]at h;exact h.symm
def R8(S:AS)(e:TypeId)(c:Nat):AV->Option (List AV×List AObj)
 | .nils=>some ([],S.hp)
 | .sl id c' 0 len=>match S.hp[id]? with
  |some (.arr e' c'' xs)=>if c'=c/\c''=c/\e'=e/\len=xs.length then some (xs,S.hp.set id .dead)else none
  |_=>none
 |_=>none
def Zw (hT:TOk P T) (hw:Q9 ops S o=some true) {s x:Operand} {t e:TypeId} (ho:o.op= .call ⟨.builtin .append,#[s,x],#[t,t]⟩) {it ei:TI} (ht:look T t=some it) (y8:it.desc= .slice e) (he:look T e=some ei)
  (hz:ei.zero.cells.size=ei.size) (y9:0<ei.size) {sv xv:AV} (hs:rho S.sl s=some sv) (hx:rho S.sl x=some xv) {xs ys:List AV} {H1:List AObj} (hb:R8 S e ei.size sv=some (xs,H1)) (hy:U3 S.hp xv=some ys)
  (zx:∀y∈ys,y.cells.length=ei.size/\y.cells.all AV.leaf=true) (hbound:(xs.length+ys.length) * ei.bytes<=140737488355328) (hlen:xs.length+ys.length<=9223372036854775807) (hd:Ek nt o=true)
  (hR:R (({ S with hp:=H1++[.arr e ei.size (xs++ys)] }:AS).putD o.dst (.sl S.hp.length ei.size 0 (xs.length+ys.length)))):Wu P nt k true ops o S R:=λC a w K Q zy hK=>by
 unfold OpW;rw[if_pos (zy.wanted hw)];obtain⟨I,m,ze,zt,hk,hE⟩:=zy;obtain⟨ao,cap,u,zm,hcell,zz⟩:=Ou ze (Qu zt hx) hy;have y0:=Qu zt hs;obtain⟨ti,zn,tz,ts,tb⟩:=hT.info he;have zk:=hT.und ht;rw[y8]at zk;have zo:H1.length=S.hp.length:=by
  unfold R8 at hb;split at hb
  ·simp only[Option.some.injEq,Prod.mk.injEq]at hb;rw[<-hb.2]
  ·split at hb
   ·split at hb
    ·simp only[Option.some.injEq,Prod.mk.injEq]at hb;rw[<-hb.2];simp
    cases hb
   cases hb
  cases hb
 -- what the run comes to decides all
 have fin:∀(v:Value) (w':World) (m':Nat->Option Nat),(Builtin.append_ #[t,t] o.type #[a.eval s,a.eval x]).run P w= .ok v w'->WS C.W0 C.I0 w' I m' (H1++[.arr e ei.size (xs++ys)])->Fut S.hp.length w I m w' I m'->
   VR w' I m' (S.hp.length+1) v (.sl S.hp.length ei.size 0 (xs.length+ys.length))->wpA P o a w K Q:=λv w' m' z8 g1 g2 g3=>by
  unfold wpA;have:(execOp a.eval o).run P w= .ok (.value v) w':=by simp[execOp,ho,resolve,invoke,builtin,z8]
  rw[this];exact hK _ _ w' hR (St.value zt hk hE g1 g2 (by simp[zo]) (Qs hd) (by simpa[zo]using g3)) (λe=>by cases e)
 -- nothing is appended
 have zero:ys=[]->∀(b0:Option Addr) (n0 c0:Nat),n0<=c0->a.eval s= .slice b0 n0 c0->(Builtin.append_ #[t,t] o.type #[a.eval s,a.eval x]).run P w= .ok (.slice b0 n0 c0) w:=λzb b0 n0 c0 hle zp=>by rw[zp,zm,zb];cases ao<;>cases b0<;>simp[Builtin.append_,run_underlying zk,sizeOf,typeInfo,zn,Builtin.lenOf,Builtin.firstCells,hle,loadCells,loadCellsFrom,storeCells]
 -- a new row
 have newrow:∀(za:Nat) (cs:Array Value),xs.length+ys.length<=za->za<=maxLen->cs.size=za * ei.size->
   (∀(i:Nat) (z:AV),(xs++ys)[i]?=some z->z.cells.length=ei.size/\∀(j:Nat) (y:AV),z.cells[j]?=some y->∃v,cs[i * ei.size+j]?=some v/\PVR w I v y)->
   (Builtin.append_ #[t,t] o.type #[a.eval s,a.eval x]).run P w= .ok (.slice (some ⟨w.heap.size,0,none⟩) (xs.length+ys.length) za) (w.drew.alloc (.cells cs e))->WS C.W0 C.I0 w I m H1->wpA P o a w K Q:=λza cs h1 h2 h3 h4 z8 hw1=>by
  have ya:Below w.heap.size w (w.drew.alloc (.cells cs e)):=(Below.refl _ _).drew.alloc (zR _) _;obtain⟨g1,g2⟩:=hw1.push ya (some w.heap.size) (λb e=>by injection e with e;subst e;simp) (.arr e ei.size (xs++ys)) (λm' hf hm=> .inr ⟨w.heap.size,za,cs,rfl,heap_alloc_new w.drew _,by simpa using h1,h2,h3,
   λz zf=>by obtain⟨i,hi⟩:=xm.1 zf;exact(h4 i z hi).1,λi z hi j y hy=>by obtain⟨v,q1,q2⟩:=(h4 i z hi).2 j y hy;exact⟨v,q1,q2.mono hf.ext⟩⟩)
  rw[zo]at g1 g2;refine fin _ _ _ z8 g1 g2 ?_;have:=VR.sl (w:=w.drew.alloc (.cells cs e)) (I:=I) (m:=upd m S.hp.length (some w.heap.size)) (n:=S.hp.length+1) S.hp.length ei.size 0 (xs.length+ys.length) za w.heap.size e (by omega) (Q6 _ _ _)
   (by have:=heap_alloc_new w.drew (.cells cs e);simp only[World.size_drew]at this;simp only[World.shape?,this,h3,yW]) h1 (by omega)
  simpa using this
 have zi:∀y∈ys,y.cells.length=ei.size:=λy hy=>(zx y hy).1;have news:0<ys.length->∃ad,ao=some ad/\∀(q:Nat) (v:Value),(Qm u ys.length ei.size)[q]?=some v->w.cell? (ad.add q)=some v:=λh0=>by
  obtain⟨ad,e1,c,h1,h2⟩:=hcell h0;have hc:c=ei.size:=by rw[<-h1 _ (yB h0),zi _ (yB h0)]
  subst hc;refine⟨ad,e1,λq v hq=>?_⟩;obtain⟨_,_,q1,q2,q3,rfl⟩:=Ro _ _ _ _ _ hq;have:=h2 _ _ q1 q2;rw[<-q3]at this;exact this
 have one:∀v∈Qm u ys.length ei.size,v.oneCell'=true:=λv hv=>by obtain⟨q,hq⟩:=xm.1 hv;obtain⟨_,_,q1,q2,q3,rfl⟩:=Ro _ _ _ _ _ hq;have yb:ys[q / ei.size]?=some ys[q / ei.size]:=zG q1;have yi:=zi _ (yB q1);have y5:(ys[q / ei.size]).cells[q % ei.size]?=some ((ys[q / ei.size]).cells[q % ei.size]'(by omega)):=zG (by omega);exact(VR.pure (m:=m) (n:=0) (zz _ _ yb _ _ y5)).oneCell (zV.1 (zx _ (yB q1)).2 _ (zE y5))
 have yrel:∀(i:Nat) (z:AV),ys[i]?=some z->∀(j:Nat) (y:AV),z.cells[j]?=some y->(Qm u ys.length ei.size)[i * ei.size+j]?=some (u i j)/\PVR w I (u i j) y:=λi z zf j y hy=>by have hi:=(zD.1 zf).1;have hj:=(zD.1 hy).1;rw[zi z (zE zf)]at hj;exact⟨Th _ _ _ _ _ hi hj,zz i z zf j y hy⟩
 have capw:∀zq,xs.length+ys.length<=grownCap w (xs.length+ys.length) zq e/\grownCap w (xs.length+ys.length) zq e<=maxLen:=λzq=>
  ⟨grownCap_ge _ _ _ _,grownCap_le_maxLen w _ zq e (by unfold maxLen;omega)⟩
 have fromNone:a.eval s= .slice none 0 0->xs=[]->WS C.W0 C.I0 w I m H1->wpA P o a w K Q:=λzp yc hw1=>by
  subst yc;rcases xz ys.length with h0|h0
  ·have zb:=xi h0;have z8:=zero zb none 0 0 (zR _) zp;obtain⟨g1,g2⟩:=hw1.push (Below.refl _ _) none (λb e=>by cases e) (.arr e ei.size ([]++ys)) (λm' _ _=> .inl ⟨rfl,by simp[zb]⟩);rw[zo]at g1 g2;refine fin _ _ _ z8 g1 g2 ?_;rw[h0];exact .slnone _ _ (by omega) (Q6 _ _ _)
  obtain⟨ad,rfl,zc⟩:=news h0;have z8:=run_append_nil (P:=P) w t o.type e ti ei.zero zk zn tz ad ys.length cap (Qm u ys.length ei.size) (by rw[Qn,ts]) zc h0 (by simp at hlen;omega) (by rw[tb];simp at hbound;omega);obtain⟨c1,c2⟩:=capw 0;simp only[wH,yW]at c1 c2;refine newrow (grownCap w ys.length 0 e) _ (by simpa using c1) c2 ?_ ?_ (by rw[zp,zm];simpa using z8) hw1
  ·simp only[xq,yG,Qn,size_zeroCells,hz,<-yA]
   congr 1;omega
  intro i z hi;simp only[wo]at hi;refine⟨zi z (zE hi),λj y hy=>?_⟩;obtain⟨q1,q2⟩:=yrel i z hi j y hy;exact⟨_,by rw[yK (by simpa using(zD.1 q1).1)];simpa using q1,q2⟩
 unfold R8 at hb;split at hb
 ·simp only[Option.some.injEq,Prod.mk.injEq]at hb;obtain⟨rfl,rfl⟩:=hb;exact fromNone y0.nils_inv rfl ze
 ·rename_i id c' len;split at hb
  ·rename_i e' c'' z1 zr;split at hb
   ·rename_i hc;obtain⟨rfl,rfl,rfl,rfl⟩:=hc;simp only[Option.some.injEq,Prod.mk.injEq]at hb;obtain⟨rfl,rfl⟩:=hb;have zd:=ze.kill id;rcases y0.sl_inv with⟨b,cp,t',hb,hn,zu,hl',hmax,zj⟩|⟨hb,hn,_,yj,zj⟩|⟨ad,hn,hlo,_,_⟩
    ·rcases ze.obj id _ zr with⟨e1,_⟩|⟨b',yd,vs,zl,hh,q1,q2,q3,q4,hr⟩
     ·rw[hb]at e1;cases e1
     obtain rfl:b=b':=by rw[hb]at zl;exact Option.some.inj zl
     have ye:cp=yd:=by
      have:w.shape? b=some (e',vs.size):=by simp[World.shape?,hh]
      rw[this]at zu;simp only[Option.some.injEq,Prod.mk.injEq,yW,q3]at zu;exact(xD y9 zu.2).symm
     subst ye;simp only[vx]at zj;have xrel:∀(i:Nat) (z:AV),z1[i]?=some z->∀j,j<ei.size->i * ei.size+j<z1.length * ei.size:=λi z hi j hj=>by have:(i+1) * ei.size<=z1.length * ei.size:=zZ _ (zD.1 hi).1;rw[yA]at this;omega
     have yf:z1.length * ei.size<=vs.size:=by rw[q3];exact zZ _ q1
     have y6:∀(w':World),w'.shape? b=some (e',cp * ei.size)->z1.length+ys.length<=cp->VR w' I (upd m S.hp.length (some b)) (S.hp.length+1) (.slice (some ⟨b,0,none⟩) (z1.length+ys.length) cp) (.sl S.hp.length ei.size 0 (z1.length+ys.length)):=λw' yg hle=>by have:=VR.sl (w:=w') (I:=I) (m:=upd m S.hp.length (some b)) (n:=S.hp.length+1) S.hp.length ei.size 0 (z1.length+ys.length) cp b e' (by omega) (Q6 _ _ _) (by simpa using yg) hle (by omega);simpa using this
     rcases xz ys.length with h0|h0
     ·have zb:=xi h0;have z8:=zero zb _ _ _ hl' zj;obtain⟨g1,g2⟩:=ze.adopt (w':=w) (o':= .arr e' ei.size (z1++ys)) zr rfl hb (World.grownBy.refl _ _) (λ_ h=>h) (λm' hf=> .inr ⟨b,cp,vs,rfl,hh,by simp[zb,q1],q2,q3,by simpa[zb]using q4,by simpa[zb]using hr⟩);refine fin _ _ _ z8 g1 g2 ?_;have:=y6 w (by simp[World.shape?,hh,q3]) (by omega);rw[h0]at this |-;exact this
     obtain⟨ad,rfl,zc⟩:=news h0;by_cases hroom:z1.length+ys.length<=cp
     ·have zg:z1.length * ti.size+(Qm u ys.length ei.size).length<=vs.size:=by rw[Qn,ts,q3,<-yA];exact zZ _ hroom
      have z8:=run_append_room (P:=P) w t o.type e' ti zk zn b z1.length cp vs hh ad ys.length cap (Qm u ys.length ei.size) (by rw[Qn,ts]) zc one hroom zg;rw[ts]at z8 zg;have zv:(vs.toList.take (z1.length * ei.size)++Qm u ys.length ei.size++vs.toList.drop (z1.length * ei.size+(Qm u ys.length ei.size).length)).toArray=spl vs (z1.length * ei.size) (Qm u ys.length ei.size).toArray:=by simp[spl]
      rw[zv]at z8;have y7:z1.length * ei.size+(Qm u ys.length ei.size).toArray.size<=vs.size:=by simpa using zg
      have zh:=Tm vs (z1.length * ei.size) (Qm u ys.length ei.size).toArray y7;obtain⟨g1,g2⟩:=ze.adopt (o':= .arr e' ei.size (z1++ys)) zr rfl hb (Ee w b (spl vs (z1.length * ei.size) (Qm u ys.length ei.size).toArray)) (Ri hh zh)
       (λm' hf=> .inr ⟨b,cp,_,rfl,setRow_heap w b vs _ e' _ hh,by simpa using hroom,q2,by rw[zh,q3],λz zf=>by
         rcases xu.1 zf with h1|h1
         ·exact q4 z h1
         ·exact zi z h1,λi z hi j y hy=>by
         rw[Oz _ _ _ _ y7];by_cases hix:i<z1.length
         ·rw[zK hix]at hi;have hj:j<ei.size:=by have:=(zD.1 hy).1;rw[q4 z (zE hi)]at this;exact this
          have:=xrel i z hi j hj;rw[if_neg (by omega)];obtain⟨v,p1,p2⟩:=hr i z hi j y hy;exact⟨v,p1,p2.mono hf.ext⟩
         rw[zF (by omega)]at hi;obtain⟨p1,p2⟩:=yrel _ z hi j y hy;have p3:=(zD.1 p1).1;have p4:i * ei.size=z1.length * ei.size+(i - z1.length) * ei.size:=by rw[<-yA];congr 1;omega
         rw[if_pos (by simp only[yG];omega)];exact⟨_,by rw[show i * ei.size+j - z1.length * ei.size=(i - z1.length) * ei.size+j by omega];simpa using p1,p2.mono hf.ext⟩⟩)
      refine fin _ _ _ (by rw[zj,zm];exact z8) g1 g2 (y6 _ ?_ hroom);simp[World.shape?,setRow_heap w b vs _ e' _ hh,zh,q3]
     have holds:∀(j:Nat) (v:Value),(vs.toList.take (z1.length * ei.size))[j]?=some v->w.cell? ((⟨b,0,none⟩:Addr).add j)=some v:=λj v hj=>by
      rw[Addr.add_lit,yW,cell_of_row w b j vs e' (0,0) hh];rw[yJ]at hj;split at hj
      ·simpa using hj
      cases hj
     have z8:=run_append_grow (P:=P) w t o.type e' ti ei.zero zk zn tz ⟨b,0,none⟩ z1.length cp (vs.toList.take (z1.length * ei.size)) (by rw[ts];simp;omega) holds ad ys.length cap (Qm u ys.length ei.size) (by rw[Qn,ts]) zc (by omega) (by omega)
      (growslice_fits (by omega) (by rw[tb];exact hbound))
     obtain⟨c1,c2⟩:=capw cp;refine newrow _ _ c1 c2 ?_ ?_ (by rw[zj,zm];exact z8) zd
     ·have:(vs.toList.take (z1.length * ei.size)).length=z1.length * ei.size:=by simp;omega
      simp only[xq,yG,Qn,size_zeroCells,hz,this,<-yA]
      congr 1;omega
     intro i z hi;have zw:(vs.toList.take (z1.length * ei.size)).length=z1.length * ei.size:=by simp;omega
     by_cases hix:i<z1.length
     ·rw[zK hix]at hi;refine⟨q4 z (zE hi),λj y hy=>?_⟩;have hj:j<ei.size:=by have:=(zD.1 hy).1;rw[q4 z (zE hi)]at this;exact this
      have yh:=xrel i z hi j hj;obtain⟨v,p1,p2⟩:=hr i z hi j y hy;refine⟨v,?_,p2⟩;rw[yK (by simp;omega),yK (by simp;omega),wM,yJ,if_pos yh];simpa using p1
     rw[zF (by omega)]at hi;refine⟨zi z (zE hi),λj y hy=>?_⟩;obtain⟨p1,p2⟩:=yrel _ z hi j y hy;have p3:=(zD.1 p1).1;have p4:i * ei.size=z1.length * ei.size+(i - z1.length) * ei.size:=by rw[<-yA];congr 1;omega
     refine⟨_,?_,p2⟩;rw[yK (by simp only[xq,yG,zw];omega),ww (by simp only[yG,zw];omega)];simp only[yG,zw];rw[show i * ei.size+j - z1.length * ei.size=(i - z1.length) * ei.size+j by omega];simpa using p1
    ·rcases ze.obj id _ zr with⟨_,e1⟩|⟨b',_,_,zl,_⟩
     ·exact fromNone zj e1 zd
     rw[hb]at zl;cases zl
    omega
   cases hb
  cases hb
 cases hb
end
end
section
section
variable {P:Program} [Env P] {T:TT} {nt k:Nat} {S:AS} {Q:Exit->AS->Prop}
def Dv(P:Program)[Env P](T:TT)(nt k:Nat)(ops:Array Oper)(Q:AS->Prop):List Oper->AS->Prop
 |[],S=>Q S
 |o::l,S=>if Ih o.op then(match Sv T ops S o with
   |some S'=>Dv P T nt k ops Q l S'
   |none=>Wu P nt k true ops o S (Dv P T nt k ops Q l))
  else Wu P nt k true ops o S (Dv P T nt k ops Q l)
def Hd(hT:TOk P T){ops:Array Oper}{R:AS->Prop}{C:Cx P}:∀(l:List Oper) (S:AS) (a:Act) (w:World),Yh nt l=true->Dv P T nt k ops R l S->St C nt k S a w->Uo P ops (w0a C nt k R) l a w
 |[],S,a,w,_,h,hs=>X9 ⟨S,h,hs⟩
 |o::l,S,a,w,hd,h,hs=>by
  simp only[Yh,wg,zX]at hd;unfold Dv at h;have key:Wu P nt k true ops o S (Dv P T nt k ops R l):=by
   split at h
   ·split at h
    ·rename_i S' z1;exact I3 hT z1 hd.1 (λ_=>rfl) (by assumption) h
    exact h
   exact h
  have:=key C a w (Uo P ops (w0a C nt k R) l) (w0a C nt k R) hs (λS' a' w' hR z8 _=>Hd hT l S' a' w' hd.2 hR z8);unfold Uo;exact this
def I8(hT:TOk P T){id:Nat}{l:List Oper}(hd:Yh nt l=true)(h:Dv P T nt k l.toArray (Q .normal) l S):AWP P nt k (.region id l.toArray false) Q S:=λC a w hs=>
 S1 (F8 (Hd hT l S a w hd h hs))
def Qp {α:Type} {c:Code} (F:α->AS) (Inv:α->Prop) (mu:α->Nat)
  (h:∀x,Inv x->(∀y,Inv y->mu y<mu x->Ul P nt k c Q (F y))->AWP P nt k c (O7 (Ul P nt k c Q) Q) (F x)):∀x,Inv x->Ul P nt k c Q (F x):=by
 have key:∀n x,mu x=n->Inv x->Ul P nt k c Q (F x):=by
  intro n;induction n using Nat.strongRecOn with
  |_ n ih=>exact λx hx hI=>Q3 (h x hI λy hy z1=>ih (mu y) (by omega) y rfl hy)
 exact λx hI=>key _ x rfl hI
def Ib {c:Code} (n:Nat) (sl:Nat->List (Nat×AV)) (H:Nat->List AObj) {z1:List (Nat×AV)} {H0 G:List AObj} (hH:H0=H 0++G) (hk:k<=(H 0).length) (h0:W6 z1 (sl 0))
  (hu:(sl 0).all (λp=>p.2.under (H 0).length)=true) (z8:(H 0).all (Eo (H 0).length)=true)
  (h:∀j,j<=n->(j<n->Ul P nt k c Q ⟨sl (j+1),H (j+1)⟩)->AWP P nt k c (O7 (Ul P nt k c Q) Q) ⟨sl j,H j⟩):AWP P nt k (.loop c) Q ⟨z1,H0⟩:=by
 subst hH;refine Qk (Qg (sl':=sl 0) (Ax G ?_ hk hu z8) h0);exact Qp (F:=λj=>⟨sl j,H j⟩) (λj=>j<=n) (λj=>n - j) (λj hj ih=>h j hj λza=>ih (j+1) (by omega) (by omega)) 0 (yO _)
def Q8 {c:Code} {sl sl':List (Nat×AV)} {H H':List AObj} (G:List AObj) (h:Ul P nt k c Q ⟨sl',H'⟩) (hH:H=H'++G) (hk:k<=H'.length) (h0:W6 sl sl')
  (hu:sl'.all (λp=>p.2.under H'.length)=true) (z1:H'.all (Eo H'.length)=true):Ul P nt k c Q ⟨sl,H⟩:=by
 subst hH;exact Qg (sl':=sl') (Ax G h hk hu z1) h0
def K8{N:AS->Prop}(h:N S):O7 N Q .normal S:=h
def P4{id:Nat}(h:Q .normal S):Dz id Q .normal S:=h
end
def Np(g:Bool)(b:Bool):deref g (.bool b)=some (.bool b):=rfl
def N3(H:List AObj)(b:Bool):Q7 H (.bool b)=some (.bool b):=by simp[Q7,AV.pure]
def q0i(H:List AObj)(b:Bool):Wn H (.bool b)=some (.bool b):=by simp[Wn,Q7,AV.pure]
def B9(H:List AObj)(b:Bool):Er H (.bool b)=some (.bool b):=by simp[Er,Wn,Q7,AV.pure]
def q0e(H:List AObj)(b:Bool):Tb H (.bool b)=some (.bool b):=by simp[Tb,Er,Wn,Q7,AV.pure]
def w08(b:Bool):AV.nrm1 (.bool b)=(.bool b):=rfl
def v0u(b:Bool):AV.nrm (.bool b)=(.bool b):=rfl
def x0x(g:Bool)(k:IntKind)(n:Int):deref g (.int k n)=some (.int k n):=rfl
def w0j(H:List AObj)(k:IntKind)(n:Int):Q7 H (.int k n)=some (.int k n):=by simp[Q7,AV.pure]
def y01(H:List AObj)(k:IntKind)(n:Int):Wn H (.int k n)=some (.int k n):=by simp[Wn,Q7,AV.pure]
def y02(H:List AObj)(k:IntKind)(n:Int):Er H (.int k n)=some (.int k n):=by simp[Er,Wn,Q7,AV.pure]
def w0p(H:List AObj)(k:IntKind)(n:Int):Tb H (.int k n)=some (.int k n):=by simp[Tb,Er,Wn,Q7,AV.pure]
def v04(k:IntKind)(n:Int):AV.nrm1 (.int k n)=(.int k n):=rfl
def f0x(k:IntKind)(n:Int):AV.nrm (.int k n)=(.int k n):=rfl
def x0m(g:Bool)(s:List UInt8):deref g (.str s)=some (.str s):=rfl
def y0h(H:List AObj)(s:List UInt8):Q7 H (.str s)=some (.str s):=by simp[Q7,AV.pure]
def x0s(H:List AObj)(s:List UInt8):Wn H (.str s)=some (.str s):=by simp[Wn,Q7,AV.pure]
def x0j(H:List AObj)(s:List UInt8):Er H (.str s)=some (.str s):=by simp[Er,Wn,Q7,AV.pure]
def x06(H:List AObj)(s:List UInt8):Tb H (.str s)=some (.str s):=by simp[Tb,Er,Wn,Q7,AV.pure]
def u0p(s:List UInt8):AV.nrm1 (.str s)=(.str s):=rfl
def d0q(s:List UInt8):AV.nrm (.str s)=(.str s):=rfl
def Mk(g:Bool)(s:List AV):deref g (.list s)=some (.list s):=rfl
def Mn(H:List AObj)(s:List AV):Q7 H (.list s)=some (.list s):=by simp[Q7,AV.pure]
def q0a(H:List AObj)(s:List AV):Wn H (.list s)=some (.list s):=by simp[Wn,Q7,AV.pure]
def Nd(H:List AObj)(s:List AV):Er H (.list s)=some (.list s):=by simp[Er,Wn,Q7,AV.pure]
def Mz(H:List AObj)(s:List AV):Tb H (.list s)=some (.list s):=by simp[Tb,Er,Wn,Q7,AV.pure]
def j0a(s:List AV):AV.nrm1 (.list s)=(.list s):=rfl
def v02(s:List AV):AV.nrm (.list s)=(.list s):=rfl
def q0h(g:Bool):deref g .nils=some .nils:=rfl
def Mf(g:Bool):deref g .nilp=some .nilp:=rfl
def Mj(H:List AObj):Q7 H .nilp=some .nilp:=by simp[Q7,AV.pure]
def q0c(H:List AObj):Wn H .nilp=some .nilp:=by simp[Wn,Q7,AV.pure]
def M8(H:List AObj):Er H .nilp=some .nilp:=by simp[Er,Wn,Q7,AV.pure]
def Ma(H:List AObj):Tb H .nilp=some .nilp:=by simp[Tb,Er,Wn,Q7,AV.pure]
def z0e:AV.nrm1 .nilp= .nilp:=rfl
def u0b:AV.nrm .nilp= .nilp:=rfl
def Nj(g:Bool):deref g .nilf=some .nilf:=rfl
def q0z(g:Bool):deref g .nili=some .nili:=rfl
def x0i(g:Bool):deref g .ifc=some .ifc:=rfl
def q06(H:List AObj):Q7 H .nilf=some .nilf:=by simp[Q7,AV.pure]
def Nb(H:List AObj):Q7 H .nili=some .nili:=by simp[Q7,AV.pure]
def w0x(H:List AObj):Q7 H .ifc=some .ifc:=by simp[Q7,AV.pure]
def Nr(H:List AObj):Wn H .nilf=some .nilf:=by simp[Wn,Q7,AV.pure]
def q0r(H:List AObj):Wn H .nili=some .nili:=by simp[Wn,Q7,AV.pure]
def w04(H:List AObj):Wn H .ifc=some .ifc:=by simp[Wn,Q7,AV.pure]
def Nv(H:List AObj):Er H .nilf=some .nilf:=by simp[Er,Wn,Q7,AV.pure]
def q0b(H:List AObj):Er H .nili=some .nili:=by simp[Er,Wn,Q7,AV.pure]
def z0z(H:List AObj):Er H .ifc=some .ifc:=by simp[Er,Wn,Q7,AV.pure]
def q0k(H:List AObj):Tb H .nilf=some .nilf:=by simp[Tb,Er,Wn,Q7,AV.pure]
def N5(H:List AObj):Tb H .nili=some .nili:=by simp[Tb,Er,Wn,Q7,AV.pure]
def z09(H:List AObj):Tb H .ifc=some .ifc:=by simp[Tb,Er,Wn,Q7,AV.pure]
def z0w:AV.nrm1 .nilf= .nilf:=rfl
def w06:AV.nrm1 .nili= .nili:=rfl
def u0j:AV.nrm1 .ifc= .ifc:=rfl
def u0e:AV.nrm .nilf= .nilf:=rfl
def u0l:AV.nrm .nili= .nili:=rfl
def c03:AV.nrm .ifc= .ifc:=rfl
def Ml(g:Bool)(s:List AV):deref g (.iptr s)=some (.iptr s):=rfl
def Md(H:List AObj)(s:List AV):Q7 H (.iptr s)=some (.iptr s):=by simp[Q7,AV.pure]
def Mx(H:List AObj)(s:List AV):Wn H (.iptr s)=some (.iptr s):=by simp[Wn,Q7,AV.pure]
def N0(H:List AObj)(s:List AV):Er H (.iptr s)=some (.iptr s):=by simp[Er,Wn,Q7,AV.pure]
def Nz(H:List AObj)(s:List AV):Tb H (.iptr s)=some (.iptr s):=by simp[Tb,Er,Wn,Q7,AV.pure]
def z0c(s:List AV):AV.nrm1 (.iptr s)=(.iptr s):=rfl
def k0b(s:List AV):AV.nrm (.iptr s)=(.iptr s):=rfl
def z04(g:Bool):deref g .top=some .top:=rfl
def z0a(H:List AObj):Q7 H .top=some .top:=by simp[Q7,AV.pure]
def v0g(H:List AObj):Wn H .top=some .top:=by simp[Wn,Q7,AV.pure]
def z0o(H:List AObj):Er H .top=some .top:=by simp[Er,Wn,Q7,AV.pure]
def v0h(H:List AObj):Tb H .top=some .top:=by simp[Tb,Er,Wn,Q7,AV.pure]
def k0z:AV.nrm1 .top= .top:=rfl
def d0c:AV.nrm .top= .top:=rfl
def y0d(g:Bool)(s:List AV):deref g (.agg s)=some (.agg s):=rfl
def y05(g:Bool)(s:List AV):deref g (.tup s)=some (.tup s):=rfl
def j0p(g:Bool)(f:Fn)(s t:List AV):deref g (.fn f s t)=some (.fn f s t):=rfl
def N2(g:Bool)(a:Nat):deref g (.mref a)=some (.mref a):=rfl
def y0j(a:Nat):AV.pure (.mref a)=false:=by simp[AV.pure]
def Ht(m a:Nat):AV.under m (.mref a)=decide (a<m):=by simp[AV.under]
def z07(g:Bool)(a:Nat):deref g (.yld a)=some (.yld a):=rfl
def u0m(a:Nat):AV.pure (.yld a)=false:=by simp[AV.pure]
def Lq(m a:Nat):AV.under m (.yld a)=decide (a<m):=by simp[AV.under]
def Mm(g:Bool)(a b:Nat):deref g (.vptr a b)=some (.vptr a b):=rfl
def x0b(g:Bool)(a b c d:Nat):deref g (.ept a b c d)=some (.ept a b c d):=rfl
def k0i(g:Bool)(a b c d:Nat):deref g (.sl a b c d)=some (.sl a b c d):=rfl
def Ic(g p:Bool)(x:AV):deref g (.opt p x)=if(!g || p)=true then some x else none:=rfl
def N1(H:List AObj):Q7 H .nils=some (.list []):=rfl
def q0l(H:List AObj):Wn H .nils=some (.list []):=rfl
def Ms(H:List AObj):Er H .nils=some (.list []):=rfl
def q0q(H:List AObj):Tb H .nils=some (.list []):=rfl
def x0t:AV.nrm1 .nils= .list []:=rfl
def j0x:AV.nrm .nils= .list []:=rfl
def j0r(s:List AV):AV.nrm1 (.agg s)= .agg s:=rfl
def c0c(f:Fn)(s t:List AV):AV.nrm1 (.fn f s t)= .fn f s t:=rfl
def f0e(s:List AV):AV.nrm (.agg s)= .agg (s.map AV.nrm1):=rfl
def z1g(f:Fn)(s t:List AV):AV.nrm (.fn f s t)= .fn f (s.map AV.nrm1) (t.map AV.nrm1):=rfl
def w00(H:List AObj)(s:List AV):Q7 H (.agg s)=if s.all AV.pure=true then some (.agg s)else none:=by rw[Q7];simp[AV.pure];all_goals simp
def z0v(H:List AObj)(s:List AV):Wn H (.agg s)=Q7 H (.agg s):=rfl
def w0k(H:List AObj)(s:List AV):Er H (.agg s)=(Qy (s.map (Wn H))).map .agg:=rfl
def w0m(H:List AObj)(s:List AV):Tb H (.agg s)=(Qy (s.map (Wn H))).map .agg:=rfl
def w0r(H:List AObj)(s:List AV):Tb H (.tup s)=(Qy (s.map (Er H))).map .tup:=rfl
def k01(H:List AObj)(id c lo len:Nat):Q7 H (.sl id c lo len)=match H[id]? with
  |some (.arr _ c' xs)=>if c=c'/\lo+len<=xs.length then some (.list ((xs.drop lo).take len))else none
  |_=>none:=rfl
def k0r(H:List AObj)(id c lo len:Nat):Wn H (.sl id c lo len)=Q7 H (.sl id c lo len):=rfl
def u07(H:List AObj)(id c lo len:Nat):Er H (.sl id c lo len)=Q7 H (.sl id c lo len):=rfl
def v0x(H:List AObj)(id c lo len:Nat):Tb H (.sl id c lo len)=Q7 H (.sl id c lo len):=rfl
def N8(H:List AObj)(id off:Nat):Wn H (.vptr id off)=match H[id]? with
  |some (.vars cs)=>(Qy (cs.map (Q7 H))).map λys=> .iptr (ys.drop off)
  |_=>none:=rfl
def Me(H:List AObj)(id off:Nat):Er H (.vptr id off)=Wn H (.vptr id off):=rfl
def q03(H:List AObj)(id off:Nat):Tb H (.vptr id off)=Wn H (.vptr id off):=rfl
def u0v(H:List AObj)(f:Fn)(xs ys:List AV):Er H (.fn f xs ys)=match Qy (xs.map (Wn H)),Qy (ys.map (Wn H))with
  |some xs,some ys=>some (.fn f xs ys)
  |_,_=>none:=rfl
def v0y(H:List AObj)(f:Fn)(xs ys:List AV):Tb H (.fn f xs ys)=Er H (.fn f xs ys):=rfl
def k0j(cs:List AV):AV.pure (.agg cs)=cs.all AV.pure:=by rw[AV.pure];simp
def j0l(cs:List AV):AV.pure (.tup cs)=cs.all AV.pure:=by rw[AV.pure];simp
def d0r(f:Fn)(xs ys:List AV):AV.pure (.fn f xs ys)=(xs.all AV.pure && ys.all AV.pure):=by rw[AV.pure];simp
def x0l(b:Bool):AV.pure (.bool b)=true:=by simp[AV.pure]
def j08(k:IntKind)(n:Int):AV.pure (.int k n)=true:=by simp[AV.pure]
def v0q(s:List UInt8):AV.pure (.str s)=true:=by simp[AV.pure]
def z0k(s:List AV):AV.pure (.list s)=true:=by simp[AV.pure]
def x0a:AV.pure .nils=true:=by simp[AV.pure]
def y0p:AV.pure .nilp=true:=by simp[AV.pure]
def y0s:AV.pure .nilf=true:=by simp[AV.pure]
def v0e:AV.pure .nili=true:=by simp[AV.pure]
def k04:AV.pure .ifc=true:=by simp[AV.pure]
def v0t:AV.pure .top=true:=by simp[AV.pure]
def v0b(s:List AV):AV.pure (.iptr s)=true:=by simp[AV.pure]
def z0i(a b:Nat):AV.pure (.vptr a b)=false:=by simp[AV.pure]
def j0g(a b c d:Nat):AV.pure (.ept a b c d)=false:=by simp[AV.pure]
def f0l(a b c d:Nat):AV.pure (.sl a b c d)=false:=by simp[AV.pure]
def flat_agg(cs:List AV):AV.flat (.agg cs)=cs.all AV.flat:=by rw[AV.flat];simp
def v0s(cs:List AV):AV.flat (.tup cs)=cs.all AV.flat:=by rw[AV.flat];simp
def z00(b:Bool):AV.flat (.bool b)=true:=by simp[AV.flat]
def u0o(k:IntKind)(n:Int):AV.flat (.int k n)=true:=by simp[AV.flat]
def u03(s:List UInt8):AV.flat (.str s)=true:=by simp[AV.flat]
def Z3(n:Nat)(cs:List AV):AV.under n (.agg cs)=cs.all (AV.under n):=by rw[AV.under];simp
def Zn(n:Nat)(cs:List AV):AV.under n (.tup cs)=cs.all (AV.under n):=by rw[AV.under];simp
def V0(n:Nat)(f:Fn)(xs ys:List AV):AV.under n (.fn f xs ys)=(xs.all (AV.under n) && ys.all (AV.under n)):=by rw[AV.under];simp
def q0f(m:Nat)(b:Bool):AV.under m (.bool b)=true:=by simp[AV.under]
def x0q(m:Nat)(k:IntKind)(n:Int):AV.under m (.int k n)=true:=by simp[AV.under]
def w0z(m:Nat)(s:List UInt8):AV.under m (.str s)=true:=by simp[AV.under]
def Mw(m:Nat)(s:List AV):AV.under m (.list s)=true:=by simp[AV.under]
def Mo(m:Nat)(s:List AV):AV.under m (.iptr s)=true:=by simp[AV.under]
def q0j(m:Nat):AV.under m .nils=true:=by simp[AV.under]
def Na(m:Nat):AV.under m .nilp=true:=by simp[AV.under]
def q0n(m:Nat):AV.under m .nilf=true:=by simp[AV.under]
def Mu(m:Nat):AV.under m .nili=true:=by simp[AV.under]
def z03(m:Nat):AV.under m .ifc=true:=by simp[AV.under]
def v0i(m:Nat):AV.under m .top=true:=by simp[AV.under]
def Xj(m:Nat)(p:Bool)(x:AV):AV.under m (.opt p x)=x.under m:=by simp[AV.under]
def Hn(m a b:Nat):AV.under m (.vptr a b)=decide (a<m):=by simp[AV.under]
def Ks(m a b c d:Nat):AV.under m (.ept a b c d)=decide (a<m):=by simp[AV.under]
def Vz(m a b c d:Nat):AV.under m (.sl a b c d)=decide (a<m):=by simp[AV.under]
attribute [simp] N2 y0j Ht z07 u0m Lq look put AS.putD ofConst rho R9 TI.agg Fs O6 Vd Ua Uc Lu Lc x1k x1j w14 D2 unA z0b setCells AV.cells AV.leaf AV.isTop J6 Yp bnd Kn y17 P7 k0e Qy F4 It Dd
 x0g Vb Z2 Kx Px Gz Ly Sd Gu Pl Hc Og Gp Oh Hb Sb Zo w1e AV.withCells Vt Q9 Sv Ko
 isVal Ih Au Dv O7 Dz W6 Eo TI.zeros zeroCell Qf Value.cells c0s y18 q1c Np N3 q0i B9 q0e w08 v0u x0x w0j y01 y02 w0p v04 f0x x0m y0h x0s x0j x06 u0p d0q Mk Mn q0a Nd Mz j0a v02 q0h Mf Mj q0c M8 Ma z0e u0b Nj q0z x0i q06 Nb w0x Nr q0r w04 Nv q0b z0z q0k N5 z09 z0w w06 u0j u0e u0l c03 Ml Md Mx N0 Nz z0c k0b z04 z0a v0g z0o v0h k0z d0c y0d y05 j0p Mm x0b k0i Ic N1 q0l Ms q0q x0t j0x j0r c0c f0e z1g w00 z0v w0k w0m w0r k01 k0r u07 v0x N8 Me q03 u0v v0y f0y k0j j0l d0r x0l j08 v0q z0k x0a y0p y0s v0e k04 v0t v0b z0i j0g f0l flat_agg v0s z00 u0o u03 Z3 Zn V0 q0f x0q w0z Mw Mo q0j Na q0n Mu z03 v0i Xj Hn Ks Vz U3 R8 Yr
end
section
section
variable {P:Program} [Env P] {T:TT} {nt k:Nat} {Q:Exit->AS->Prop} {S:AS}
def qa{y:Code}(hT:TOk P T){id:Nat}{l:List Oper}(hd:Yh nt l=true)(h:Dv P T nt k l.toArray (O7 (AWP P nt k y Q) Q .normal) l S):AWP P nt k (.seq (.region id l.toArray false) y) Q S:=R0 (I8 hT hd h)
def qb(hT:TOk P T){id:Nat}{l:List Oper}(hd:Yh nt l=true)(h:Dv P T nt k l.toArray (Q .normal) l S):AWP P nt k (.region id l.toArray false) Q S:=I8 hT hd h
def z19:Code->Option Exit
 | .skip=>some .normal
 | .exit id=>some (.exit id)
 | .ret=>some .ret
 |_=>none
def qh{c:Code}{e:Exit}(he:z19 c=some e)(h:Q e S):AWP P nt k c Q S:=by
 cases c<;>simp only[z19,Option.some.injEq,reduceCtorEq]at he<;>subst he
 ·exact Vy h
 ·exact Bu h
 exact Ci h
def qf{id:Nat}{c:Code}(h:AWP P nt k c (Dz id Q) S):AWP P nt k (.block id c) Q S:=D6 h
def qg{x y:Code}(h:AWP P nt k x (O7 (AWP P nt k y Q) Q) S):AWP P nt k (.seq x y) Q S:=R0 h
end
end
section
section
variable {P:Program} [Env P] {T:TT} {nt k:Nat} {S:AS} {Q:Exit->AS->Prop}
def Jx{c:Code}(t:Nat){xs:List AV}(h:look S.sl t=some (.list xs))(hk:xs.length<=9223372036854775807->AWP P nt k c Q S):AWP P nt k c Q S:=λC a w hs=>by obtain⟨I,m,hw,z1,z8,hf⟩:=hs;obtain⟨v,_,hv⟩:=z1.2.2 t _ h;obtain⟨_,cap,_,_,_,h1,h2,_⟩:=hv.list_inv.list_inv;exact hk (by unfold maxLen at h2;omega) C a w ⟨I,m,hw,z1,z8,hf⟩
def Mi{c:Code}(t i:Nat){cs xs:List AV}(h:look S.sl t=some (.agg cs))(hi:cs[i]?=some (.list xs))(hk:xs.length<=9223372036854775807->AWP P nt k c Q S):AWP P nt k c Q S:=λC a w hs=>by
 obtain⟨I,m,hw,z8,za,hf⟩:=hs;obtain⟨v,_,hv⟩:=z8.2.2 t _ h;obtain⟨vs,rfl,hl,z1⟩:=hv.agg_inv;have zb:i<vs.size:=by rw[hl];exact(zD.1 hi).1
 have zc:=z1 i vs[i] _ (by simp[zb]) hi;obtain⟨_,cap,_,_,_,h1,h2,_⟩:=zc.list_inv.list_inv;exact hk (by unfold maxLen at h2;omega) C a w ⟨I,m,hw,z8,za,hf⟩
def E9 {c:Code} (n:Nat) (Inv:Nat->Prop) (sl:Nat->List (Nat×AV)) (H:Nat->List AObj) {z1:List (Nat×AV)} {H0 G:List AObj} (hH:H0=H 0++G) (hk:k<=(H 0).length) (h0:W6 z1 (sl 0))
  (hu:(sl 0).all (λp=>p.2.under (H 0).length)=true) (z8:(H 0).all (Eo (H 0).length)=true) (hI:Inv 0)
  (h:∀j,j<=n->Inv j->(j<n->Inv (j+1)->Ul P nt k c Q ⟨sl (j+1),H (j+1)⟩)->AWP P nt k c (O7 (Ul P nt k c Q) Q) ⟨sl j,H j⟩):AWP P nt k (.loop c) Q ⟨z1,H0⟩:=by
 subst hH;refine Qk (Qg (sl':=sl 0) (Ax G ?_ hk hu z8) h0);exact Qp (F:=λj=>⟨sl j,H j⟩) (λj=>j<=n/\Inv j) (λj=>n - j) (λj hj ih=>h j hj.1 hj.2 λza hi=>ih (j+1) ⟨by omega,hi⟩ (by omega)) 0 ⟨yO _,hI⟩
end
def Nx(g:Bool)(x:AV):deref g (.opt g x)=some x:=by rw[Ic];cases g<;>rfl
def q0w(g p:Bool)(x:AV):deref (g && p) (.opt g x)=some x:=by rw[Ic];cases g<;>cases p<;>rfl
def q0t(g p:Bool)(x:AV):deref (p && g) (.opt g x)=some x:=by rw[Ic];cases g<;>cases p<;>rfl
def Cg(g p q:Bool)(x:AV):deref ((g && p) && q) (.opt g x)=some x:=by rw[Ic];cases g<;>cases p<;>cases q<;>rfl
attribute [simp high] Nx q0w q0t Cg
end
section
def AV.ren(s:Nat->Nat):AV->AV
 | .agg cs=> .agg (cs.attach.map λ⟨x,_⟩=>x.ren s)
 | .tup cs=> .tup (cs.attach.map λ⟨x,_⟩=>x.ren s)
 | .fn f xs ys=> .fn f (xs.attach.map λ⟨x,_⟩=>x.ren s) (ys.attach.map λ⟨x,_⟩=>x.ren s)
 | .vptr id off=> .vptr (s id) off
 | .yld id=> .yld (s id)
 | .mref id=> .mref (s id)
 | .ept id c i off=> .ept (s id) c i off
 | .sl id c lo len=> .sl (s id) c lo len
 | .opt p x=> .opt p (x.ren s)
 |x=>x
section
variable (s:Nat->Nat)
theorem y04(cs:List AV):(AV.agg cs).ren s= .agg (cs.map (AV.ren s)):=by rw[AV.ren];simp
theorem z0t(cs:List AV):(AV.tup cs).ren s= .tup (cs.map (AV.ren s)):=by rw[AV.ren];simp
theorem g0n(f:Fn)(xs ys:List AV):(AV.fn f xs ys).ren s= .fn f (xs.map (AV.ren s)) (ys.map (AV.ren s)):=by rw[AV.ren];simp
theorem Bd(b:Bool):(AV.bool b).ren s= .bool b:=by simp[AV.ren]
theorem y08(k:IntKind)(n:Int):(AV.int k n).ren s= .int k n:=by simp[AV.ren]
theorem y0i(x:List UInt8):(AV.str x).ren s= .str x:=by simp[AV.ren]
theorem Vx(x:List AV):(AV.list x).ren s= .list x:=by simp[AV.ren]
theorem Bl(x:List AV):(AV.iptr x).ren s= .iptr x:=by simp[AV.ren]
theorem Bw:(AV.nils).ren s= .nils:=by simp[AV.ren]
theorem Be:(AV.nilp).ren s= .nilp:=by simp[AV.ren]
theorem Bs:(AV.nilf).ren s= .nilf:=by simp[AV.ren]
theorem Bc:(AV.nili).ren s= .nili:=by simp[AV.ren]
theorem w0i:(AV.ifc).ren s= .ifc:=by simp[AV.ren]
theorem d0j:(AV.top).ren s= .top:=by simp[AV.ren]
theorem Vs(a:Nat):(AV.mref a).ren s= .mref (s a):=by simp[AV.ren]
theorem v0a(a:Nat):(AV.yld a).ren s= .yld (s a):=by simp[AV.ren]
theorem Br(a b:Nat):(AV.vptr a b).ren s= .vptr (s a) b:=by simp[AV.ren]
theorem z0j(a b c d:Nat):(AV.ept a b c d).ren s= .ept (s a) b c d:=by simp[AV.ren]
theorem g0l(a b c d:Nat):(AV.sl a b c d).ren s= .sl (s a) b c d:=by simp[AV.ren]
theorem y0f(p:Bool)(x:AV):(AV.opt p x).ren s= .opt p (x.ren s):=by simp[AV.ren]
end
def AObj.ren(s:Nat->Nat):AObj->AObj
 | .vars cs=> .vars (cs.map (AV.ren s))
 | .arr e c xs=> .arr e c xs
 | .dead=> .dead
 | .tag id t=> .tag (s id) t
 | .lp rdy pend nt sl ps asg body=> .lp rdy pend nt (sl.map λp=>(p.1,p.2.ren s)) ps asg body
 | .mp kvs=> .mp kvs
 | .va e c xs=> .va e c (xs.map (AV.ren s))
 | .it left cur=> .it left cur
 | .fm kvs=> .fm kvs
 | .mv kvs=> .mv (kvs.map λp=>(p.1,p.2.ren s))
def Xc(s:Nat->Nat)(x:AV):(x.ren s).cells=x.cells.map (AV.ren s):=by cases x<;>simp[AV.ren,AV.cells]
def VR.ren{w:World}{I:Nat->Prop}{m:Nat->Option Nat}{n n':Nat}{s:Nat->Nat}(x:AV)(v:Value)(h:VR w I m n v (x.ren s))(hu:x.under n'=true):VR w I (λi=>m (s i)) n' v x:=by
 match x,v,h,hu with
 | .agg cs,v,h,hu=>rw[y04]at h;rw[Z3,zV]at hu;obtain⟨vs,rfl,hl,z1⟩:=h.agg_inv;refine .agg vs cs (by simpa using hl) λi v x hv hx=>?_;have hm:=zE hx;exact VR.ren x v (z1 i v _ hv (by simp[hx])) (hu x hm)
 | .tup cs,v,h,hu=>rw[z0t]at h;rw[Zn,zV]at hu;obtain⟨vs,rfl,hl,z1⟩:=h.tup_inv;refine .tup vs cs (by simpa using hl) λi v x hv hx=>?_;have hm:=zE hx;exact VR.ren x v (z1 i v _ hv (by simp[hx])) (hu x hm)
 | .fn f xs ys,v,h,hu=>
  rw[g0n]at h;rw[V0,zX,zV,zV]at hu;obtain⟨vs,us,rfl,hl,z1,hl',z8⟩:=h.fn_inv;refine .fn f vs us xs ys (by simpa using hl) (λi v x hv hx=>?_) (by simpa using hl') (λi v x hv hx=>?_)
  ·have hm:=zE hx;exact VR.ren x v (z1 i v _ hv (by simp[hx])) (hu.1 x hm)
  have hm:=zE hx;exact VR.ren x v (z8 i v _ hv (by simp[hx])) (hu.2 x hm)
 | .bool b,v,h,_=>rw[Bd]at h;rw[h.bool_inv];exact .pure (.bool b)
 | .int k z,v,h,_=>rw[y08]at h;rw[h.int_inv];exact .pure (.int k z)
 | .str x,v,h,_=>rw[y0i]at h;rw[h.str_inv];exact .pure (.str x)
 | .list xs,v,h,_=>rw[Vx]at h;exact .pure h.list_inv
 | .iptr xs,v,h,_=>rw[Bl]at h;exact .pure h.iptr_inv
 | .nils,v,h,_=>rw[Bw]at h;rw[h.nils_inv];exact .pure .nils
 | .nilp,v,h,_=>rw[Be]at h;rw[h.nilp_inv];exact .pure .nilp
 | .nilf,v,h,_=>rw[Bs]at h;rw[h.nilf_inv];exact .pure .nilf
 | .nili,v,h,_=>rw[Bc]at h;rw[h.nili_inv];exact .pure .nili
 | .ifc,v,h,_=>rw[w0i]at h;obtain⟨t,u,rfl⟩:=h.ifc_inv;exact .pure (.ifc t u)
 | .top,v,_,_=>exact .pure (.top v)
 | .vptr id off,v,h,hu=>rw[Br]at h;obtain⟨b,hb,_,rfl⟩:=h.vptr_inv;exact .vptr id off b (by simpa[Hn]using hu) hb
 | .ept id c i off,v,h,hu=>rw[z0j]at h;obtain⟨b,hb,_,rfl⟩:=h.ept_inv;exact .ept id c i off b (by simpa[Ks]using hu) hb
 | .sl id c lo len,v,h,hu=>
  rw[g0l]at h;have hn:id<n':=by simpa[Vz]using hu
  rcases h.sl_inv with⟨b,cap,t,hb,_,hs,hl,hmax,rfl⟩|⟨hb,_,rfl,rfl,rfl⟩|⟨a,_,hlo,rfl,rfl⟩
  ·exact .sl id c lo len cap b t hn hb hs hl hmax
  ·exact .slnone id c hn hb
  exact .slend id c lo a hn hlo
 | .yld id,v,h,hu=>rw[v0a]at h;obtain⟨b,hb,_,rfl⟩:=h.yld_inv;exact .yld id b (by simpa[Lq]using hu) hb
 | .mref id,v,h,hu=>rw[Vs]at h;obtain⟨b,hb,_,rfl⟩:=h.mref_inv;exact .mref id b (by simpa[Ht]using hu) hb
 | .opt p x,v,h,hu=>rw[y0f]at h;rw[Xj]at hu;obtain⟨h1,h2⟩:=h.opt_inv;exact .opt p x (λe=>VR.ren x v (h1 e) hu) h2
termination_by SizeOf.sizeOf x
decreasing_by all_goals (first|(have:=List.sizeOf_lt_of_mem hm;simp;omega)|(simp;omega)|simp)
def J8(s:Nat->Nat){t:Nat}{x:AV}:∀ {sl:List (Nat×AV)},look sl t=some x->look (sl.map λp=>(p.1,p.2.ren s)) t=some (x.ren s)
 |[],hx=>by cases hx
 |(t',y)::r,hx=>by
  simp only[z_,look]at hx |-;split
  ·rename_i e;subst e;simp at hx;rw[hx]
  rename_i e;rw[if_neg e]at hx;exact J8 s hx
def rn(ix:List Nat)(i:Nat):Nat:=ix.getD i i
section
variable {P:Program} [Env P] {nt k:Nat} {Q:Exit->AS->Prop}
def St.ren {C:Cx P} {a:Act} {w:World} {sl sl':List (Nat×AV)} {H H':List AObj} (ix:List Nat) (hs:St C nt k ⟨sl,H⟩ a w)
  (h1:ix.map (λi=>H[i]?)=H'.map (λo=>some (o.ren (rn ix)))) (h2:ix.Nodup) (h3:k<=ix.length) (zc:ix.take k=xV k)
  (h4:sl'.all (λp=>p.2.under H'.length)=true) (z8:H'.all (Eo H'.length)=true) (h5:W6 sl (sl'.map λp=>(p.1,p.2.ren (rn ix)))):St C nt k ⟨sl',H'⟩ a w:=by
 obtain⟨I,m,hw,za,hk,hf⟩:=hs;have hlen:H'.length=ix.length:=by have:=congrArg List.length h1;simpa using this.symm
 have z1:∀(i:Nat) (o:AObj),H'[i]?=some o->H[rn ix i]?=some (o.ren (rn ix))/\ix[i]?=some (rn ix i):=λi o ho=>by
  have hi:i<ix.length:=by have:=(zD.1 ho).1;omega
  have e1:ix[i]?=some (rn ix i):=by simp[rn,hi]
  have:=congrArg (λl=>l[i]?) h1;simp only[zU,ho,e1,xU,Option.some.injEq]at this;exact⟨this,e1⟩
 refine⟨I,λi=>m (rn ix i),⟨hw.below,hw.i0,hw.iw,λid o ho=>?_,λid o b ho hl hm=>?_,λi j oi oj b hi hj li lj mi mj=>?_⟩,⟨za.1,za.2.1,λt x hx=>?_⟩,by rw[hlen];exact h3,?_⟩
 ·have h6:=hw.obj _ _ (z1 id o ho).1;cases o with
  |vars cs=>obtain⟨b,t,vs,e,hh,hl,hr⟩:=h6;refine⟨b,t,vs,e,hh,by simpa using hl,λj v x hv hx=>VR.ren x v (hr j v _ hv (by simp[hx])) ?_⟩;have:=zV.1 z8 _ (zE ho);simp only[Eo,zV]at this;exact this x (zE hx)
  |arr e c xs=>exact h6
  |va e c xs=>
   have hb:=zV.1 z8 _ (zE ho);simp only[Eo,zV]at hb;rcases h6 with⟨h7,h8⟩|⟨b,cap,vs,e1,hh,q1,q2,q3,q4,hr⟩
   ·exact .inl ⟨h7,by simpa using h8⟩
   refine .inr ⟨b,cap,vs,e1,hh,by simpa using q1,q2,q3,λx hx=>?_,λi x hx j y hy=>?_⟩
   ·have:=q4 (x.ren (rn ix)) (xg.2 ⟨x,hx,rfl⟩)
    rwa [Xc,xp]at this
   obtain⟨v,hv,hp⟩:=hr i (x.ren (rn ix)) (by rw[zU,hx];rfl) j (y.ren (rn ix)) (by rw[Xc,zU,hy];rfl);exact⟨v,hv,VR.ren y v hp (hb x (zE hx) y (zE hy))⟩
  |dead=>trivial
  |tag id t=>have:=zV.1 z8 _ (zE ho);simp only[Eo,decide_eq_true_eq]at this;exact⟨this,h6.2⟩
  |lp rdy pend nt sl ps asg body=>obtain⟨b,r,e,hh,q1,q2,q3,q4,q5,q6,q7⟩:=h6;refine⟨b,r,e,hh,q1,q2,q3,q4,q5,q6,λt x hx=>?_⟩;obtain⟨v,hv,hr⟩:=q7 t _ (J8 (rn ix) hx);have:=zV.1 z8 _ (zE ho);exact⟨v,hv,VR.ren x v hr (zV.1 this _ (I5 hx))⟩
  |mp kvs=>exact h6
  |it left cur=>exact h6
  |fm kvs=>exact h6
  |mv kvs=>have hb:=zV.1 z8 _ (zE ho);simp only[Eo,zV]at hb;obtain⟨b,es,ck,e1,hh,hl,hr⟩:=h6;refine⟨b,es,ck,e1,hh,⟨by simpa using hl.size,hl.born,hl.nodup⟩,λi x p a c=>?_⟩;have:=hr i x (p.1,p.2.ren (rn ix)) a (by rw[zU,c];rfl);exact⟨this.1,VR.ren p.2 _ this.2 (hb p (zE c))⟩
 ·exact hw.own _ _ b (z1 id o ho).1 (by cases o<;>exact hl) hm
 ·obtain⟨p1,p2⟩:=z1 i oi hi;obtain⟨q1,q2⟩:=z1 j oj hj;have:=hw.inj _ _ _ _ b p1 q1 (by cases oi<;>exact li) (by cases oj<;>exact lj) mi mj;exact(List.getElem?_inj (zD.1 p2).1 h2).1 (by rw[p2,q2,this])
 ·have zb:=I5 hx;have h6:=J8 (rn ix) hx;obtain⟨v,hv,hr⟩:=za.2.2 t _ (Tn h5 _ _ h6);exact⟨v,hv,VR.ren x v hr (zV.1 h4 _ zb)⟩
 refine⟨⟨hf.fut.ext,λid hid=>?_,hf.fut.shape⟩,hf.defs,hf.rnd⟩;have:rn ix id=id:=by have h7:=congrArg (λl=>l[id]?) zc;simp only[yJ,if_pos hid]at h7;rw[vb hid]at h7;simp[rn,h7]
 simp only[this];exact hf.fut.ids id hid
def y07 {c:Code} {sl sl':List (Nat×AV)} {H H':List AObj} (ix:List Nat) (h:AWP P nt k c Q ⟨sl',H'⟩)
  (h1:ix.map (λi=>H[i]?)=H'.map (λo=>some (o.ren (rn ix)))) (h2:ix.Nodup) (h3:k<=ix.length) (z1:ix.take k=xV k)
  (h4:sl'.all (λp=>p.2.under H'.length)=true) (z8:H'.all (Eo H'.length)=true) (h5:W6 sl (sl'.map λp=>(p.1,p.2.ren (rn ix)))):AWP P nt k c Q ⟨sl,H⟩:=
 λC a w hs=>h C a w (hs.ren ix h1 h2 h3 z1 h4 z8 h5)
def Z5 {c:Code} {sl sl':List (Nat×AV)} {H H':List AObj} (ix:List Nat) (h:Ul P nt k c Q ⟨sl',H'⟩)
  (h1:ix.map (λi=>H[i]?)=H'.map (λo=>some (o.ren (rn ix)))) (h2:ix.Nodup) (h3:k<=ix.length) (z1:ix.take k=xV k)
  (h4:sl'.all (λp=>p.2.under H'.length)=true) (z8:H'.all (Eo H'.length)=true) (h5:W6 sl (sl'.map λp=>(p.1,p.2.ren (rn ix)))):Ul P nt k c Q ⟨sl,H⟩:=
 λC a w hs=>h C a w (hs.ren ix h1 h2 h3 z1 h4 z8 h5)
def Iw {c:Code} {sl:List (Nat×AV)} {H:List AObj} (i f e sz:Nat) {cs:List AV} (hi:H[i]?=some (.vars cs)) (z8:cs[f]?=some .nils)
  (h:AWP P nt k c Q ⟨sl,H.set i (.vars (cs.set f (.sl H.length sz 0 0)))++[.arr e sz []]⟩):AWP P nt k c Q ⟨sl,H⟩:=λC a w hs=>by
 obtain⟨I,m,hw,z1,hk,hf⟩:=hs;obtain⟨g1,g2⟩:=hw.push (Below.refl _ _) none (λb e=>by cases e) (.arr e sz []) (λm' _ _=> .inl ⟨rfl,rfl⟩);have za:i<H.length:=(zD.1 hi).1;refine h C a w ⟨I,upd m H.length none,?_,⟨z1.1,z1.2.1,λt x hx=>?_⟩,by simp at hk |-;omega,?_⟩
 ·have zb:(H++[AObj.arr e sz []])[i]?=some (.vars cs):=by rw[zK za];exact hi
  have zd:=g1.obj i _ zb;obtain⟨b,t,vs,e1,hh,hl,hr⟩:=zd;have:=g1.set (o':= .vars (cs.set f (.sl H.length sz 0 0))) zb rfl e1 (World.grownBy.refl _ _) (λ_ h=>h) (λm' zc=>⟨b,t,vs,rfl,hh,by simpa using hl,λj v x hv hx=>?_⟩)
  ·have h2:=this.1;rw[List.set_append_left _ _ za]at h2;exact h2
  by_cases hj:j=f
  ·subst hj;rw[zJ (zD.1 z8).1]at hx;cases hx;have:=(hr j v _ hv z8).nils_inv;subst this;refine .slnone H.length sz (by simp) ?_;rw[zc.ids _ (by simp),Q6]
  rw[zI (by omega)]at hx;exact(hr j v x hv hx).mono zc (zR _)
 ·obtain⟨v,hv,hr⟩:=z1.2.2 t x hx;refine⟨v,hv,?_⟩;have:=hr.mono (n':=(H++[AObj.arr e sz []]).length) g2 (by simp);simpa using this
 exact hf.trans hk g2
end
def w1h(ix:List Nat)(i:Nat):rn ix i=ix.getD i i:=rfl
attribute [simp] Vs v0a y04 z0t g0n Bd y08 y0i Vx Bl Bw Be Bs Bc w0i d0j Br z0j g0l y0f AObj.ren w1h
end
section
section
variable {P:Program} [Env P] {T:TT} {nt k:Nat} {S:AS} {ops:Array Oper} {o:Oper} {R:AS->Prop}
def Em(ei:TI)(xs ys:List AV):Prop:=(∀y∈ys,y.cells.length=ei.size/\y.cells.all AV.leaf=true)/\(xs.length+ys.length) * ei.bytes<=140737488355328
def Jo (hT:TOk P T) (hw:Q9 ops S o=some true) {s x:Operand} {t e:TypeId} (ho:o.op= .call ⟨.builtin .append,#[s,x],#[t,t]⟩) {it ei:TI} (ht:look T t=some it) (z1:it.desc= .slice e) (he:look T e=some ei)
  (hz:ei.zero.cells.size=ei.size) (z8:0<ei.size) (za:0<ei.bytes) {sv xv:AV} (hs:rho S.sl s=some sv) (hx:rho S.sl x=some xv) (hd:Ek nt o=true)
  (hR:match R8 S e ei.size sv,U3 S.hp xv with
   |some (xs,H1),some ys=>Em ei xs ys/\R (({ S with hp:=H1++[.arr e ei.size (xs++ys)] }:AS).putD o.dst (.sl S.hp.length ei.size 0 (xs.length+ys.length)))
   |_,_=>False):Wu P nt k true ops o S R:=by
 cases hb:R8 S e ei.size sv with
 |none=>rw[hb]at hR;exact hR.elim
 |some p=>
  obtain⟨xs,H1⟩:=p;cases hy:U3 S.hp xv with
  |none=>rw[hb,hy]at hR;exact hR.elim
  |some ys=>rw[hb,hy]at hR;obtain⟨⟨h1,h2⟩,h3⟩:=hR;refine Zw hT hw ho ht z1 he hz z8 hs hx hb hy h1 h2 ?_ hd h3;have:=Nat.le_mul_of_pos_right (xs.length+ys.length) za;omega
end
end
section
def AV.fz(i c:Nat)(xs:List AV):AV->AV
 | .agg cs=> .agg (cs.attach.map λ⟨x,_⟩=>x.fz i c xs)
 | .tup cs=> .tup (cs.attach.map λ⟨x,_⟩=>x.fz i c xs)
 | .fn f ys zs=> .fn f (ys.attach.map λ⟨x,_⟩=>x.fz i c xs) (zs.attach.map λ⟨x,_⟩=>x.fz i c xs)
 | .sl id c' lo len=>if id=i/\c'=c/\lo+len<=xs.length then .list ((xs.drop lo).take len)else .sl id c' lo len
 | .opt p x=> .opt p (x.fz i c xs)
 |x=>x
section
variable (i c:Nat) (xs:List AV)
theorem Si(cs:List AV):(AV.agg cs).fz i c xs= .agg (cs.map (AV.fz i c xs)):=by rw[AV.fz];simp
theorem y0y(cs:List AV):(AV.tup cs).fz i c xs= .tup (cs.map (AV.fz i c xs)):=by rw[AV.fz];simp
theorem d04(f:Fn)(ys zs:List AV):(AV.fn f ys zs).fz i c xs= .fn f (ys.map (AV.fz i c xs)) (zs.map (AV.fz i c xs)):=by rw[AV.fz];simp
theorem Cb(b:Bool):(AV.bool b).fz i c xs= .bool b:=by simp[AV.fz]
theorem Tv(k:IntKind)(n:Int):(AV.int k n).fz i c xs= .int k n:=by simp[AV.fz]
theorem z1w(x:List UInt8):(AV.str x).fz i c xs= .str x:=by simp[AV.fz]
theorem Yf(x:List AV):(AV.list x).fz i c xs= .list x:=by simp[AV.fz]
theorem f0d(x:List AV):(AV.iptr x).fz i c xs= .iptr x:=by simp[AV.fz]
theorem d02:(AV.nils).fz i c xs= .nils:=by simp[AV.fz]
theorem d0v:(AV.nilp).fz i c xs= .nilp:=by simp[AV.fz]
theorem c0f:(AV.nilf).fz i c xs= .nilf:=by simp[AV.fz]
theorem c0b:(AV.nili).fz i c xs= .nili:=by simp[AV.fz]
theorem y1l:(AV.ifc).fz i c xs= .ifc:=by simp[AV.fz]
theorem w1k:(AV.top).fz i c xs= .top:=by simp[AV.fz]
theorem z0q(a:Nat):(AV.mref a).fz i c xs= .mref a:=by simp[AV.fz]
theorem g0d(a:Nat):(AV.yld a).fz i c xs= .yld a:=by simp[AV.fz]
theorem Uv(a b:Nat):(AV.vptr a b).fz i c xs= .vptr a b:=by simp[AV.fz]
theorem g0w(a b d e:Nat):(AV.ept a b d e).fz i c xs= .ept a b d e:=by simp[AV.fz]
theorem Od(id c' lo len:Nat):(AV.sl id c' lo len).fz i c xs=if id=i/\c'=c/\lo+len<=xs.length then .list ((xs.drop lo).take len)else .sl id c' lo len:=by rw[AV.fz]
theorem g0h(p:Bool)(x:AV):(AV.opt p x).fz i c xs= .opt p (x.fz i c xs):=by simp[AV.fz]
end
def AObj.fz(i c:Nat)(xs:List AV):AObj->AObj
 | .vars cs=> .vars (cs.map (AV.fz i c xs))
 | .arr e c' ys=> .arr e c' ys
 | .dead=> .dead
 | .tag id t=> .tag id t
 | .lp rdy pend nt sl ps asg body=> .lp rdy pend nt (sl.map λp=>(p.1,p.2.fz i c xs)) ps asg body
 | .mp kvs=> .mp kvs
 | .va e c' ys=> .va e c' (ys.map (AV.fz i c xs))
 | .it left cur=> .it left cur
 | .fm kvs=> .fm kvs
 | .mv kvs=> .mv (kvs.map λp=>(p.1,p.2.fz i c xs))
def Bm(i c:Nat)(xs:List AV)(x:AV):(x.fz i c xs).cells=x.cells.map (AV.fz i c xs):=by
 cases x with
 |sl a b d e=>by_cases h:a=i/\b=c/\d+e<=xs.length<;>simp[AV.fz,AV.cells,h]
 |_=>simp[AV.fz,AV.cells]
def f09{w:World}{I:Nat->Prop}{v:Value}{x:AV}(i c:Nat)(xs:List AV)(h:PVR w I v x):x.fz i c xs=x:=by
 have key:∀(vs:Array Value) (cs:List AV),vs.size=cs.length->(∀(k:Nat) (v:Value) (x:AV),vs[k]?=some v->cs[k]?=some x->x.fz i c xs=x)->cs.map (AV.fz i c xs)=cs:=λvs cs hl ih=>by
  refine xk λk=>?_;rw[zU];cases hx:cs[k]? with
  |none=>rfl
  |some x=>
   have hk:k<vs.size:=by rw[hl];exact(zD.1 hx).1
   rw[xU,ih k vs[k] x (by simp[hk]) hx]
 induction h with
 |agg vs cs hl h ih=>rw[Si,key vs cs hl ih]
 |tup vs cs hl h ih=>rw[y0y,key vs cs hl ih]
 |fn f vs us ys zs hl h hl' h' ih ih'=>rw[d04,key vs ys hl ih,key us zs hl' ih']
 |_=>simp[AV.fz]
section
variable {P:Program} [Env P] {nt k:Nat} {Q:Exit->AS->Prop} {W0 w:World} {I0 I:Nat->Prop} {m:Nat->Option Nat} {H:List AObj}
def VR.fz(hw:WS W0 I0 w I m H){i e c:Nat}{xs:List AV}(hi:H[i]?=some (.arr e c xs)){v:Value}{x:AV}(h:VR w I m H.length v x):
  VR w (λb=>I b\/m i=some b) m H.length v (x.fz i c xs):=by
 have z8:Ext w w I (λb=>I b\/m i=some b):=⟨λ_ h=> .inl h,λ_ _=>rfl⟩
 have zb:i<H.length:=(zD.1 hi).1
 -- the other objects set aside
 have z1:∀(id:Nat) (o:AObj),((zH H.length AObj.dead).set i (.arr e c xs))[id]?=some o->(id=i/\o= .arr e c xs)\/o= .dead:=λid o ho=>by
  by_cases hid:id=i
  ·subst hid;rw[zJ (by simpa using zb)]at ho;exact .inl ⟨rfl,(Option.some.inj ho).symm⟩
  rw[zI (by omega),xt]at ho;split at ho
  ·exact .inr (Option.some.inj ho).symm
  cases ho
 have hw1:WS W0 I0 w I m ((zH H.length AObj.dead).set i (.arr e c xs)):=by
  refine⟨hw.below,hw.i0,hw.iw,λid o ho=>?_,λid o b ho hl hm=>?_,λa b oa ob d ha hb la lb ma mb=>?_⟩
  ·rcases z1 id o ho with⟨rfl,rfl⟩|rfl
   ·have:=hw.obj _ _ hi;simpa using this
   trivial
  ·rcases z1 id o ho with⟨rfl,rfl⟩|rfl
   ·exact hw.own _ _ b hi rfl hm
   cases hl
  rcases z1 a oa ha with⟨rfl,rfl⟩|rfl
  ·rcases z1 b ob hb with⟨rfl,rfl⟩|rfl
   ·rfl
   cases lb
  cases la
 have za:∀b,Mt I m ((zH H.length AObj.dead).set i (.arr e c xs)) b->I b\/m i=some b:=λb hb=>by
  rcases hb with hb|⟨id,o,ho,hl,hm⟩
  ·exact .inl hb
  rcases z1 id o ho with⟨rfl,rfl⟩|rfl
  ·exact .inr hm
  cases hl
 induction h with
 |pure h=>rw[f09 i c xs h];exact .pure (h.mono z8)
 |agg vs cs hl h ih=>rw[Si];refine .agg vs _ (by simpa using hl) λj v x hv hx=>?_;rw[zU]at hx;obtain⟨y,hy,rfl⟩:=zM.1 hx;exact ih j v y hv hy
 |tup vs cs hl h ih=>rw[y0y];refine .tup vs _ (by simpa using hl) λj v x hv hx=>?_;rw[zU]at hx;obtain⟨y,hy,rfl⟩:=zM.1 hx;exact ih j v y hv hy
 |fn f vs us ys zs hl h hl' h' ih ih'=>
  rw[d04];refine .fn f vs us _ _ (by simpa using hl) (λj v x hv hx=>?_) (by simpa using hl') (λj v x hv hx=>?_)
  ·rw[zU]at hx;obtain⟨y,hy,rfl⟩:=zM.1 hx;exact ih j v y hv hy
  rw[zU]at hx;obtain⟨y,hy,rfl⟩:=zM.1 hx;exact ih' j v y hv hy
 |vptr id off b hn hb=>rw[Uv];exact .vptr id off b hn hb
 |ept id c' j off b hn hb=>rw[g0w];exact .ept id c' j off b hn hb
 |yld id b hn hb=>rw[g0d];exact .yld id b hn hb
 |mref id b hn hb=>rw[z0q];exact .mref id b hn hb
 |opt p x h1 h2 ih=>rw[g0h];exact .opt p _ ih h2
 |sl id c' lo len cap b t hn hb hs hl hmax=>
  rw[Od];have hv:VR w I m H.length _ _:= .sl id c' lo len cap b t hn hb hs hl hmax;split
  ·rename_i hc;obtain⟨rfl,rfl,zc⟩:=hc;have:=Ox hw1 (by simpa using hv) (y:= .list ((xs.drop lo).take len)) (by simp[Q7,zJ,zb,zc]);exact .pure (this.mono ⟨za,λ_ _=>rfl⟩)
  exact .sl id c' lo len cap b t hn hb hs hl hmax
 |slnone id c' hn hb=>
  rw[Od];split
  ·refine .pure ?_;simp only[List.drop_zero,ux];exact .list _ _ _ 0 _ (λ_ _=>undef) rfl (by simp) (by unfold maxLen;omega) (λx hx=>by simp at hx) (λh0=>by simp at h0) (λi x hx=>by simp at hx)
  exact .slnone id c' hn hb
 |slend id c' lo a hn hlo=>
  rw[Od];split
  ·refine .pure ?_;simp only[ux];exact .list _ _ _ 0 _ (λ_ _=>undef) rfl (by simp) (by unfold maxLen;omega) (λx hx=>by simp at hx) (λh0=>by simp at h0) (λi x hx=>by simp at hx)
  exact .slend id c' lo a hn hlo
def As{i c:Nat}{xs:List AV}{t:Nat}{x:AV}:∀ {sl:List (Nat×AV)},look (sl.map λp=>(p.1,p.2.fz i c xs)) t=some x->∃y,look sl t=some y/\x=y.fz i c xs
 |[],hx=>by cases hx
 |(t',y)::r,hx=>by
  simp only[z_,look]at hx |-;split
  ·rename_i e;subst e;simp at hx;exact⟨y,rfl,hx.symm⟩
  rename_i e;rw[if_neg e]at hx;exact As hx
def Uq.fz(hw:WS W0 I0 w I m H){i e c:Nat}{xs:List AV}(hi:H[i]?=some (.arr e c xs)){b? :Option Nat}{o:AObj}(h:Uq w I m H.length b? o):
  Uq w (λb=>I b\/m i=some b) m H.length b? (o.fz i c xs):=by
 have z1:Ext w w I (λb=>I b\/m i=some b):=⟨λ_ h=> .inl h,λ_ _=>rfl⟩
 cases o with
 |vars cs=>obtain⟨b,t,vs,e1,hh,hl,hr⟩:=h;refine⟨b,t,vs,e1,hh,by simpa using hl,λj v x hv hx=>?_⟩;rw[zU]at hx;obtain⟨y,hy,rfl⟩:=zM.1 hx;exact(hr j v y hv hy).fz hw hi
 |arr e' c' ys=>
  rcases h with h|⟨b,cap,vs,e1,hh,h1,h2,h3,h4,hr⟩
  ·exact .inl h
  exact .inr ⟨b,cap,vs,e1,hh,h1,h2,h3,h4,λi x hx j y hy=>by obtain⟨v,hv,hp⟩:=hr i x hx j y hy;exact⟨v,hv,hp.mono z1⟩⟩
 |it left cur=>obtain⟨r,bm,es,ck,since,seen,c0,e1,hh,hI,hm,h1,h2,h3,h4,h5,hr,z8⟩:=h;exact⟨r,bm,es,ck,since,seen,c0,e1,hh,.inl hI,hm,h1,h2,h3,h4,h5,λi x p a d=>⟨(hr i x p a d).1.mono z1,(hr i x p a d).2.mono z1⟩,λp hp=>by obtain⟨e2,sn,q1,q2,q3,q4,q5⟩:=z8 p hp;exact⟨e2,sn,q1,q2,q3,q4.mono z1,q5.mono z1⟩⟩
 |va e' c' ys=>
  rcases h with⟨h7,h8⟩|⟨b,cap,vs,e1,hh,h1,h2,h3,h4,hr⟩
  ·exact .inl ⟨h7,by rw[h8];rfl⟩
  refine .inr ⟨b,cap,vs,e1,hh,by simpa using h1,h2,h3,λx hx=>?_,λk x hx j y hy=>?_⟩
  ·obtain⟨z,hz,rfl⟩:=xg.1 hx;rw[Bm,xp];exact h4 z hz
  rw[zU]at hx;obtain⟨z,hz,rfl⟩:=zM.1 hx;rw[Bm,zU]at hy;obtain⟨u,hu,rfl⟩:=zM.1 hy;obtain⟨v,hv,hp⟩:=hr k z hz j u hu;exact⟨v,hv,hp.fz hw hi⟩
 |dead=>trivial
 |fm kvs=>obtain⟨b,es,ck,e1,hI,hh,hl,hr⟩:=h;exact⟨b,es,ck,e1,.inl hI,hh,hl,λi x p a d=>⟨(hr i x p a d).1.mono z1,(hr i x p a d).2.mono z1⟩⟩
 |tag j t=>exact h
 |lp rdy pend nt sl ps asg body=>obtain⟨b,r,e1,hh,q1,q2,q3,q4,q5,q6,q7⟩:=h;refine⟨b,r,e1,hh,q1,q2,q3,q4,q5,q6,λt x hx=>?_⟩;obtain⟨y,hy,rfl⟩:=As hx;obtain⟨v,hv,hr⟩:=q7 t y hy;exact⟨v,hv,hr.fz hw hi⟩
 |mp kvs=>obtain⟨b,es,ck,e1,hh,hl,hr⟩:=h;exact⟨b,es,ck,e1,hh,hl,λi x p a d=>⟨(hr i x p a d).1.mono z1,(hr i x p a d).2.mono z1⟩⟩
 |mv kvs=>obtain⟨b,es,ck,e1,hh,hl,hr⟩:=h;refine⟨b,es,ck,e1,hh,⟨by simpa using hl.size,hl.born,hl.nodup⟩,λi x p a d=>?_⟩;rw[zU]at d;obtain⟨q,hq,rfl⟩:=zM.1 d;exact⟨(hr i x q a hq).1.mono z1,(hr i x q a hq).2.fz hw hi⟩
def St.freeze{C:Cx P}{a:Act}{w:World}{sl:List (Nat×AV)}{H:List AObj}(hs:St C nt k ⟨sl,H⟩ a w)(i:Nat){e c:Nat}{xs:List AV}(hi:H[i]?=some (.arr e c xs)):
  St C nt k ⟨sl.map λp=>(p.1,p.2.fz i c xs),(H.set i .dead).map (AObj.fz i c xs)⟩ a w:=by
 obtain⟨I,m,hw,za,hk,hf⟩:=hs;have zb:Ext w w I (λb=>I b\/m i=some b):=⟨λ_ h=> .inl h,λ_ _=>rfl⟩
 have hlen:((H.set i .dead).map (AObj.fz i c xs)).length=H.length:=by simp
 have z8:∀(id:Nat) (o:AObj),((H.set i .dead).map (AObj.fz i c xs))[id]?=some o->o.live=true->id≠i/\∃o',H[id]?=some o'/\o=o'.fz i c xs/\o'.live=true:=λid o ho hl=>by
  rw[zU]at ho;obtain⟨o',z1,rfl⟩:=zM.1 ho;by_cases hid:id=i
  ·subst hid;rw[zJ (zD.1 hi).1]at z1;cases z1;simp[AObj.fz,AObj.live]at hl
  rw[zI (by omega)]at z1;exact⟨hid,o',z1,rfl,by cases o'<;>exact hl⟩
 refine⟨λb=>I b\/m i=some b,m,⟨hw.below,λb hb=> .inl (hw.i0 b hb),λb hb=>?_,λid o ho=>?_,λid o b ho hl hm=>?_,λa b oa ob d ha hb la lb ma mb=>?_⟩,⟨za.1,za.2.1,λt x hx=>?_⟩,by rw[hlen];exact hk,hf.trans hk ⟨zb,λ_ _=>rfl,λ_ _ h=>h⟩⟩
 ·rcases hb with hb|hb
  ·exact hw.iw b hb
  have:=hw.own i _ b hi rfl hb;exact⟨this.2.2,.inr this.1⟩
 ·rw[hlen];by_cases hl:o.live=true
  ·obtain⟨_,o',z1,rfl,_⟩:=z8 id o ho hl;exact(hw.obj id o' z1).fz hw hi
  rw[zU]at ho;obtain⟨o',z1,rfl⟩:=zM.1 ho;by_cases hid:id=i
  ·subst hid;rw[zJ (zD.1 hi).1]at z1;cases z1;trivial
  rw[zI (by omega)]at z1;cases o' with
  |vars cs=>exact absurd rfl hl
  |arr e c xs=>exact absurd rfl hl
  |dead=>trivial
  |tag j t=>exact hw.obj id _ z1
  |lp rdy pend nt sl ps asg body=>exact absurd rfl hl
  |mp kvs=>exact absurd rfl hl
  |va e c xs=>exact absurd rfl hl
  |it left cur=>exact absurd rfl hl
  |fm kvs=>exact(hw.obj id _ z1).fz hw hi
  |mv kvs=>exact absurd rfl hl
 ·obtain⟨zc,o',z1,rfl,hl'⟩:=z8 id o ho hl;have h1:=hw.own id o' b z1 hl' hm;refine⟨h1.1,λhc=>?_,h1.2.2⟩;rcases hc with hc|hc
  ·exact h1.2.1 hc
  exact zc (hw.inj id i o' _ b z1 hi hl' rfl hm hc)
 ·obtain⟨_,zd,ze,_,zf⟩:=z8 a oa ha la;obtain⟨_,zg,zh,_,zi⟩:=z8 b ob hb lb;exact hw.inj a b zd zg d ze zh zf zi ma mb
 rw[hlen];have:=As hx;obtain⟨y,hy,rfl⟩:=this;obtain⟨v,hv,hr⟩:=za.2.2 t y hy;exact⟨v,hv,hr.fz hw hi⟩
def Z0{wr:Bool}{ops:Array Oper}{o:Oper}{R:AS->Prop}{sl:List (Nat×AV)}{H:List AObj}(i:Nat){e c:Nat}{xs:List AV}(hi:H[i]?=some (.arr e c xs))(h:Wu P nt k wr ops o ⟨sl.map λp=>(p.1,p.2.fz i c xs),(H.set i .dead).map (AObj.fz i c xs)⟩ R):Wu P nt k wr ops o ⟨sl,H⟩ R:=
 λC a w K Q hs=>h C a w K Q (hs.freeze i hi)
end
attribute [simp] z0q g0d Si y0y d04 Cb Tv z1w Yf f0d d02 d0v c0f c0b y1l w1k Uv g0w Od g0h AObj.fz
end
section
section
variable {P:Program} [Env P] {T:TT} {nt k:Nat} {S:AS} {ops:Array Oper} {o:Oper} {R:AS->Prop}
def Uu (hT:TOk P T) {wr:Bool} (hw:Q9 ops S o=some true) {t u e:TypeId} {x:Operand} (ho:o.op= .binOp .eql t x (.const (.slice none 0 0)) u) {it:TI} (ht:look T t=some it) (zb:it.desc= .slice e)
  {xs:List AV} (hx:rho S.sl x=some (.list xs)) (hd:Ek nt o=true) (hR:∀b,(xs≠[]->b=false)->R (S.putD o.dst (.bool b))):Wu P nt k wr ops o S R:=λC a w K Q hs hK=>by
 unfold OpW;rw[if_pos (hs.wanted hw)];obtain⟨I,m,zc,z8,hk,hE⟩:=hs;obtain⟨ad,cap,c,uu,hv,h1,h2,h3,h4,h5⟩:=(Qu z8 hx).list_inv.list_inv;have za:=hT.und ht;rw[zb]at za;have z1:(execOp a.eval o).run P w= .ok (.value (.bool ad.isNone)) w:=by have:=Go.Lib.run_eql_slice_nil (P:=P) w t e ad xs.length cap 0 0 za;have hc:a.eval (.const (.slice none 0 0))= .slice none 0 0:=rfl;simp[execOp,ho,hv,eqGuard,hc,this]
 unfold wpA;rw[z1];refine hK _ _ w (hR ad.isNone λzd=>?_) (St.value z8 hk hE zc (Fut.refl _ _ _ _) (zR _) (Qs hd) (.pure (.bool _))) (λ_=>Tz.refl w);obtain⟨ze,rfl,_⟩:=h4 (List.length_pos_iff.2 zd);rfl
end
end
section
inductive Plan where
 |done
 |val (i:Nat) (p:Plan)
 |one (i:Nat) (p:Plan)
 |two (i:Nat) (p:Plan) (j:Nat) (q:Plan)
def Plan.size:Plan->Nat
 | .done=>0
 | .val _ p=>p.size+1
 | .one _ p=>p.size+1
 | .two _ p _ _=>p.size+1
def Gf(ops:Array Oper)(cl:List (List Nat))(Wr:List Nat):Plan->Array Bool->Bool
 | .done,l=>(Region.ready .any ops l).isEmpty
 | .val i p,l=>(match ops[i]? with
   |none=>false
   |some o=>isVal o.op && Hi ops cl Wr l i && (Region.ready .any ops l).contains i) && Gf ops cl Wr p (l.setIfInBounds i true)
 | .one i p,l=>(ops[i]?).isSome && Region.ready .any ops l==[i] && Gf ops cl Wr p (l.setIfInBounds i true)
 | .two i p j q,l=>(ops[i]?).isSome && (ops[j]?).isSome && Region.ready .any ops l==[i,j] && p.size==q.size && Gf ops cl Wr p (l.setIfInBounds i true) && Gf ops cl Wr q (l.setIfInBounds j true)
def stepT(P:Program)[Env P](T:TT)(nt k:Nat)(ops:Array Oper)(W:Nat->Bool)(i:Nat)(R:AS->Prop)(S:AS):Prop:=match ops[i]? with
 |none=>False
 |some o=>if Ih o.op then(match Sv T ops S o with
   |some S'=>(Au o.op=true->W i=true)/\R S'
   |none=>False)
  else Wu P nt k (W i) ops o S R
def Re(P:Program)[Env P](T:TT)(nt k:Nat)(ops:Array Oper)(W:Nat->Bool)(i:Nat)(R:AS->Prop)(S:AS):Prop:=match ops[i]? with
 |none=>False
 |some o=>if Ih o.op then(match Sv T ops S o with
   |some S'=>(Au o.op=true->W i=true)/\R S'
   |none=>Wu P nt k (W i) ops o S R)
  else Wu P nt k (W i) ops o S R
def Lf(P:Program)[Env P](T:TT)(nt k:Nat)(ops:Array Oper)(W:Nat->Bool)(Q:AS->Prop):Plan->AS->Prop
 | .done,S=>Q S
 | .val i p,S=>stepT P T nt k ops W i (Lf P T nt k ops W Q p) S
 | .one i p,S=>Re P T nt k ops W i (Lf P T nt k ops W Q p) S
 | .two i p j q,S=>Re P T nt k ops W i (Lf P T nt k ops W Q p) S/\Re P T nt k ops W j (Lf P T nt k ops W Q q) S
section
variable {P:Program} [Env P] {T:TT} {nt k:Nat} {S:AS} {ops:Array Oper} {o:Oper} {R:AS->Prop} {Wr:List Nat}
def Rp (hT:TOk P T) {C:Cx P} (hd:Yh nt ops.toList=true) {i:Nat} {R':AS->Prop} {N:Act->World->Prop} {a:Act} {w:World} (h:Re P T nt k ops Wr.contains i R' S) (hs:St C nt k S a w)
  (hN:∀S' a' w',R' S'->St C nt k S' a' w'->N a' w'):Pc P ops (w0a C nt k R) i (λa' w'=>(Wr.contains i=false->Tz w w')/\N a' w') a w:=by
 unfold Re at h;cases ho:ops[i]? with
 |none=>rw[ho]at h;exact h.elim
 |some o=>
  rw[ho]at h;simp only at h;have z1:Ek nt o=true:=zV.1 hd o (by simpa using wS ho);have key:Wu P nt k (Wr.contains i) ops o S R':=by
   split at h
   ·split at h
    ·rename_i S' z8;exact I3 hT z8 z1 h.1 (by assumption) h.2
    exact h
   exact h
  have:=key C a w (λa' w'=>(Wr.contains i=false->Tz w w')/\N a' w') (w0a C nt k R) hs (λS' a' w' hR za hh=>⟨hh,hN S' a' w' hR za⟩);unfold Pc;rw[ho];exact this
def Io(hT:TOk P T){C:Cx P}(hd:Yh nt ops.toList=true)(zb:Region.noSelect ops=true):∀(p:Plan) (listed:Array Bool) (S:AS) (a:Act) (w:World),Ut ops listed->Gf ops (Yu ops.toList []) Wr p listed=true->Lf P T nt k ops Wr.contains R p S->St C nt k S a w->
  Sa P ops Wr (w0a C nt k R) p.size listed a w
 | .done,listed,S,a,w,_,hp,h,hs=>⟨by simpa[Gf]using hp,S,h,hs⟩
 | .val i p,listed,S,a,w,z8,hp,h,hs=>by
  unfold Gf at hp;unfold Lf stepT at h;rw[zX]at hp;obtain⟨zd,zc⟩:=hp;cases ho:ops[i]? with
  |none=>rw[ho]at h;exact h.elim
  |some o=>
   rw[ho]at h zd;simp only at h zd;have ze:Ek nt o=true:=zV.1 hd o (by simpa using wS ho);simp only[zX]at zd;obtain⟨⟨hv,hf⟩,hr⟩:=zd;have zf:Ih o.op=true:=by cases hop:o.op<;>rw[hop]at hv<;>first|rfl|exact hv|(simp[isVal]at hv)
   rw[if_pos zf]at h;have z1:i∈Region.ready .any ops listed:=by simpa using hr
   split at h
   ·rename_i S' zg;obtain⟨v,hy,za⟩:=hs.yields hT ze hv zg;exact Ie ho (Region.noSelect_spec zb) (λc a w hq=>hq) (λx y=>T1 o.op=true->Tz x y) (λw _=>Tz.refl w) (λx y z h1 h2 hr=>(h1 hr).trans (h2 hr)) p.size listed a w
     (λj oj hj zh zi zj=>Kf ho hf j oj hj zh zi zj) z8 z1 hy (Io hT hd zb p _ S' _ w (z8.set z1) zc h.2 za)
   exact h.elim
 | .one i p,listed,S,a,w,z8,hp,h,hs=>by
  unfold Gf at hp;simp only[zX,beq_iff_eq]at hp;obtain⟨⟨_,z1⟩,zc⟩:=hp;have zk:i∈Region.ready .any ops listed:=by rw[z1];simp
  refine⟨λh0=>(by rw[z1]at h0;cases h0),λj hj=>?_⟩;rw[z1]at hj;obtain rfl:j=i:=by simpa using hj
  exact Rp hT hd h hs λS' a' w' hR za=>Io hT hd zb p _ S' a' w' (z8.set zk) zc hR za
 | .two i p j q,listed,S,a,w,z8,hp,h,hs=>by
  unfold Gf at hp;simp only[zX,beq_iff_eq]at hp;obtain⟨⟨⟨⟨_,z1⟩,zl⟩,zc⟩,zm⟩:=hp;have zn:i∈Region.ready .any ops listed:=by rw[z1];simp
  have zo:j∈Region.ready .any ops listed:=by rw[z1];simp
  refine⟨λh0=>(by rw[z1]at h0;cases h0),λm hm=>?_⟩;rw[z1]at hm;rcases(by simpa using hm:m=i\/m=j)with rfl|rfl
  ·exact Rp hT hd h.1 hs λS' a' w' hR za=>Io hT hd zb p _ S' a' w' (z8.set zn) zc hR za
  refine Rp hT hd h.2 hs λS' a' w' hR za=>?_;have:=Io hT hd zb q _ S' a' w' (z8.set zo) zm hR za;rw[<-zl]at this;exact this
def Qw (hT:TOk P T) (hm:P.follows .mixedOrders=true) {Q:Exit->AS->Prop} {id:Nat} {l:List Oper} (Wr:List Nat) (p:Plan) (hd:Yh nt l=true)
  (hp:(Region.noSelect l.toArray && p.size==l.length && Gf l.toArray (Yu l []) Wr p (wD l.length false))=true)
  (h:Lf P T nt k l.toArray Wr.contains (Q .normal) p S):AWP P nt k (.region id l.toArray true) Q S:=λC a w hs=>by
 simp only[zX,beq_iff_eq]at hp;obtain⟨⟨h1,h2⟩,h3⟩:=hp;refine S1 (wpIn_region_any hm (Iy (Wr:=Wr) _ _ _ _ ?_));have zb:St C nt k S a { w with drawn:=w.drawn+1 }:=by
  obtain⟨I,m,hw,z1,hk,hE⟩:=hs;have hb:Below w.heap.size w { w with drawn:=w.drawn+1 }:=⟨rfl,rfl,rfl,zR _,λ_ _=>rfl⟩
  obtain⟨g1,g2⟩:=hw.step hb (λ_ h=>h) (λb z8=>⟨(hw.iw b z8).1,.inl z8⟩);exact⟨I,m,g1,⟨z1.1,z1.2.1,λt x hx=>by obtain⟨v,hv,hr⟩:=z1.2.2 t x hx;exact⟨v,hv,hr.mono g2 (zR _)⟩⟩,hk,hE.trans hk g2⟩
 have:=Io hT (C:=C) (nt:=nt) (k:=k) (R:=Q .normal) (by simpa using hd) h1 p (wD l.length false) S a _ (λj o ho hj=>by
  have za:=(xl.1 ho).1;simp at za;simp[za]at hj) (by simpa using h3) h zb
 rw[h2]at this;simpa using this
end
attribute [simp] Lf stepT Re
end
section
section
variable {P:Program} [Env P] {T:TT} {nt k:Nat} {S:AS} {ops:Array Oper} {o:Oper} {R:AS->Prop}
def C8 {w:World} {dT sT ty e:TypeId} {ti:TypeInfo} (hu:P.underlying dT=some (.slice e)) (hi:P.info? e=some ti) (b off dLen dCap:Nat) (a:Addr) (sLen sCap:Nat) (cs:List Value) (cur:Array Value) (t:TypeId)
  (hn:cs.length=xF sLen dLen * ti.size) (z1:∀j v,cs[j]?=some v->w.cell? (a.add j)=some v) (hg:w.heap[b]?=some (.cells cur t (0,0))) (z8:off+cs.length<=cur.size) (h1:∀v∈cs,v.oneCell'=true):
  (Builtin.copy_ #[dT,sT] ty #[.slice (some ⟨b,off,none⟩) dLen dCap,.slice (some a) sLen sCap]).run P w= .ok (goInt (xF sLen dLen)) (w.setRow b (spl cur off cs.toArray)):=by
 have hl:=run_loadCells_list (P:=P) w a cs z1;have za:=run_storeCells_at (P:=P) b off t cs 0 cur w hg (by simpa using z8) h1;rw[hn]at hl;simp[Builtin.copy_,run_underlying hu,Builtin.lenOf,Builtin.firstCells,sizeOf,typeInfo,hi,hl,za,spl]
end
end
section
section
variable {P:Program} [Env P] {T:TT} {nt k:Nat} {S:AS} {ops:Array Oper} {o:Oper} {R:AS->Prop}
def Kd{w:World}{dT sT ty e:TypeId}{ti:TypeInfo}(hu:P.underlying dT=some (.slice e))(hi:P.info? e=some ti)(d a:Option Addr)(dLen dCap sLen sCap:Nat)(hn:xF sLen dLen=0):
  (Builtin.copy_ #[dT,sT] ty #[.slice d dLen dCap,.slice a sLen sCap]).run P w= .ok (goInt 0) w:=by
 have hl:∀(x:Addr),(loadCells x 0).run P w= .ok #[] w:=λx=>by simpa using run_loadCells_list (P:=P) w x [] (by simp)
 cases d<;>cases a<;>simp[Builtin.copy_,run_underlying hu,Builtin.lenOf,Builtin.firstCells,sizeOf,typeInfo,hi,hn,storeCells,hl]
def Iz (hT:TOk P T) (hw:Q9 ops S o=some true) {d s:Operand} {t t' e:TypeId} (ho:o.op= .call ⟨.builtin .copy,#[d,s],#[t,t']⟩) {it ei:TI} (ht:look T t=some it) (ya:it.desc= .slice e) (he:look T e=some ei)
  {id lo len:Nat} (yb:rho S.sl d=some (.sl id ei.size lo len)) {sv:AV} (yc:rho S.sl s=some sv) {ys:List AV} (hy:U3 S.hp sv=some ys) {e':TypeId} {xs:List AV} (zj:S.hp[id]?=some (.arr e' ei.size xs))
  (hlen:lo+len<=xs.length) (zu:∀y∈ys.take len,y.cells.length=ei.size/\y.cells.all AV.leaf=true) (hd:Ek nt o=true)
  (hR:R (({ S with hp:=S.hp.set id (.arr e' ei.size (xs.take lo++ys.take len++xs.drop (lo+xF ys.length len))) }:AS).putD o.dst (.int .i64 (xF ys.length len:Nat)))):Wu P nt k true ops o S R:=λC a w K Q zv hK=>by
 unfold OpW;rw[if_pos (zv.wanted hw)];obtain⟨I,m,zk,zn,hk,hE⟩:=zv;obtain⟨ao,cap,u,zw,hcell,zx⟩:=Ou zk (Qu zn yc) hy;obtain⟨ti,zy,tz,ts,tb⟩:=hT.info he;have zo:=hT.und ht;rw[ya]at zo;have fin:∀(w':World) (m':Nat->Option Nat),(Builtin.copy_ #[t,t'] o.type #[a.eval d,a.eval s]).run P w= .ok (goInt (xF ys.length len)) w'->WS C.W0 C.I0 w' I m' (S.hp.set id (.arr e' ei.size (xs.take lo++ys.take len++xs.drop (lo+xF ys.length len))))->
   Fut S.hp.length w I m w' I m'->wpA P o a w K Q:=λw' m' z1 g1 g2=>by
  unfold wpA;have:(execOp a.eval o).run P w= .ok (.value (goInt (xF ys.length len))) w':=by simp[execOp,ho,resolve,invoke,builtin,z1]
  rw[this];exact hK _ _ w' hR (St.value zn hk hE g1 g2 (by simp) (Qs hd) (.pure (.int _ _))) (λe=>by cases e)
 have zero:xF ys.length len=0->∀(b0:Option Addr) (n0 c0:Nat),n0=len->a.eval d= .slice b0 n0 c0->wpA P o a w K Q:=λh0 b0 n0 c0 yd ye=>by
  subst yd;have h1:xs.take lo++ys.take n0++xs.drop (lo+xF ys.length n0)=xs:=by
   have:ys.take n0=[]:=by apply xi;rw[List.length_take,Nat.min_comm];exact h0
   rw[this,h0];simp
  have zp:S.hp.set id (.arr e' ei.size (xs.take lo++ys.take n0++xs.drop (lo+xF ys.length n0)))=S.hp:=by
   rw[h1];refine xk λj=>?_;by_cases hj:j=id
   ·subst hj;rw[zJ (zD.1 zj).1,zj]
   rw[zI (by omega)]
  refine fin w m ?_ (by rw[zp];exact zk) (Fut.refl _ _ _ _);rw[ye,zw,h0];exact Kd zo zy _ _ _ _ _ _ h0
 rcases(Qu zn yb).sl_inv with⟨b,cp,t2,hb,hn,yo,hl',hmax,za⟩|⟨hb,hn,yf,zc,za⟩|⟨ad,hn,hlo,zc,za⟩
 ·rcases xz (xF ys.length len)with h0|h0
  ·exact zero h0 _ _ _ rfl za
  have zq:0<ys.length:=yZ h0 (uy _ _);have zc:0<len:=yZ h0 (uo _ _);obtain⟨ad,rfl,c,yg,yh⟩:=hcell zq;have yi:c=ei.size:=by have hm:ys[0]∈ys.take len:=zE (i:=0) (by rw[yJ,if_pos zc];simp[zq]);rw[<-yg _ (yB zq),(zu _ hm).1]
  subst yi;rcases zk.obj id _ zj with⟨e1,_⟩|⟨b',yj,vs,zz,hh,q1,q2,q3,q4,hr⟩
  ·rw[hb]at e1;cases e1
  obtain rfl:b=b':=by rw[hb]at zz;exact Option.some.inj zz
  have y0:xF ys.length len<=ys.length:=uy _ _;have y5:xF ys.length len<=len:=uo _ _;generalize zl:xF ys.length len=n at *
  have y6:ys.take len=ys.take n:=by
   rcases Nat.le_total ys.length len with h|h
   ·rw[zY h,<-zl,show xF ys.length len=ys.length from Nat.min_eq_left h,zY (zR _)]
   rw[<-zl,show xF ys.length len=len from Nat.min_eq_right h]
  have zd:lo * ei.size+n * ei.size<=vs.size:=by rw[q3,<-yA];exact zZ _ (by omega)
  have ze:lo * ei.size+(Qm u n ei.size).length<=vs.size:=by rw[Qn];exact zd
  have z8:∀i,i<n->∃y,ys[i]?=some y/\y.cells.length=ei.size/\y.cells.all AV.leaf=true:=λi hi=>by
   have y7:i<ys.length:=by omega
   refine⟨ys[i],by simp[y7],zu _ (zE (i:=i) (by rw[yJ,if_pos (by omega)];simp[y7]))⟩
  have one:∀v∈Qm u n ei.size,v.oneCell'=true:=λv hv=>by obtain⟨q,hq⟩:=xm.1 hv;obtain⟨_,_,p1,p2,_,rfl⟩:=Ro _ _ _ _ _ hq;obtain⟨y,zb,zr,yk⟩:=z8 _ p1;have hz:y.cells[q % ei.size]?=some (y.cells[q % ei.size]'(by omega)):=zG (by omega);exact(VR.pure (m:=m) (n:=0) (zx _ _ zb _ _ hz)).oneCell (zV.1 yk _ (zE hz))
  have zt:∀(q:Nat) (v:Value),(Qm u n ei.size)[q]?=some v->w.cell? (ad.add q)=some v:=λq v hq=>by obtain⟨_,_,p1,p2,p3,rfl⟩:=Ro _ _ _ _ _ hq;have:=yh _ _ (show q / ei.size<ys.length by omega) p2;rw[<-p3]at this;exact this
  have z1:=C8 (P:=P) (w:=w) (dT:=t) (sT:=t') (ty:=o.type) zo zy b (lo * ei.size) len cp ad ys.length cap (Qm u n ei.size) vs e' (by rw[Qn,ts,zl]) zt hh ze one;rw[zl]at z1;have y8:lo * ei.size+(Qm u n ei.size).toArray.size<=vs.size:=by simpa using ze
  have zf:=Tm vs (lo * ei.size) (Qm u n ei.size).toArray y8;have zg:(xs.take lo++ys.take len++xs.drop (lo+n)).length=xs.length:=by rw[y6];simp;omega
  have zh:∀(i:Nat) (z:AV),(xs.take lo++ys.take len++xs.drop (lo+n))[i]?=some z->(lo<=i/\i<lo+n/\ys[i - lo]?=some z)\/((i<lo\/lo+n<=i)/\xs[i]?=some z):=λi z hz=>by
   rw[y6]at hz;have e1:(xs.take lo).length=lo:=by simp;omega
   have e2:(ys.take n).length=n:=by simp;omega
   rw[List.append_assoc,yH,e1]at hz;split at hz
   ·rw[yJ,if_pos (by assumption)]at hz;exact .inr ⟨.inl (by assumption),hz⟩
   rw[yH,e2]at hz;split at hz
   ·rw[yJ,if_pos (by assumption)]at hz;exact .inl ⟨by omega,by omega,hz⟩
   rw[yX,show lo+n+(i - lo - n)=i by omega]at hz;exact .inr ⟨.inr (by omega),hz⟩
  have zi:(AObj.arr e' ei.size xs).live=true:=rfl;obtain⟨g1,g2⟩:=zk.set (o':= .arr e' ei.size (xs.take lo++ys.take len++xs.drop (lo+n))) zj zi hb (Ee w b (spl vs (lo * ei.size) (Qm u n ei.size).toArray)) (Ri hh zf)
   (λm' hf=> .inr ⟨b,yj,_,rfl,setRow_heap w b vs _ e' _ hh,by rw[zg];exact q1,q2,by rw[zf,q3],λz hz=>by
     obtain⟨i,hi⟩:=xm.1 hz;rcases zh i z hi with⟨p1,p2,p3⟩|⟨_,p3⟩
     ·obtain⟨y,zb,zr,_⟩:=z8 (i - lo) (by omega);rw[zb]at p3;cases p3;exact zr
     ·exact q4 z (zE p3),λi z hi j y zm=>by
     rw[Oz _ _ _ _ y8];rcases zh i z hi with⟨p1,p2,p3⟩|⟨p1,p3⟩
     ·obtain⟨y',zb,zr,_⟩:=z8 (i - lo) (by omega);have yl:z=y':=by rw[zb]at p3;exact(Option.some.inj p3).symm
      subst yl;have hj:j<ei.size:=by have:=(zD.1 zm).1;omega
      have y9:=Th u n ei.size (i - lo) j (by omega) hj;have yp:=(zD.1 y9).1;have yq:i * ei.size=lo * ei.size+(i - lo) * ei.size:=by rw[<-yA];congr 1;omega
      rw[if_pos (by simp only[yG];omega)];exact⟨u (i - lo) j,by rw[show i * ei.size+j - lo * ei.size=(i - lo) * ei.size+j by omega];simpa using y9,(zx _ _ zb _ _ zm).mono hf.ext⟩
     obtain⟨v,ym,yn⟩:=hr i z p3 j y zm;have hj:j<ei.size:=by have:=(zD.1 zm).1;rw[q4 z (zE p3)]at this;exact this
     rw[if_neg ?_]
     ·exact⟨v,ym,yn.mono hf.ext⟩
     simp only[yG,Qn];rintro⟨r1,r2⟩;rw[<-yA]at r2;rcases p1 with p1|p1
     ·have:(i+1) * ei.size<=lo * ei.size:=zZ _ (by omega);rw[yA]at this;omega
     have:(lo+n) * ei.size<=i * ei.size:=zZ _ (by omega);omega⟩)
  exact fin _ _ (by rw[za,zw];exact z1) g1 g2
 ·subst zc;exact zero (uI _) _ _ _ rfl za
 subst zc;exact zero (uI _) _ _ _ rfl za
end
end
section
section
variable {P:Program} [Env P] {T:TT} {nt k:Nat} {S:AS} {ops:Array Oper} {o:Oper} {R:AS->Prop} {Q:Exit->AS->Prop}
def u0f{c:Code}{sl:List (Nat×AV)}{H:List AObj}(id:Nat)(h:AWP P nt k c Q ⟨sl,H.set id .dead⟩):AWP P nt k c Q ⟨sl,H⟩:=λC a w ⟨I,m,hw,z1,hk,hf⟩=>
 h C a w ⟨I,m,hw.kill id,⟨z1.1,z1.2.1,λt x hx=>by simpa using z1.2.2 t x hx⟩,by simpa using hk,hf⟩
def u0q {cd:Code} {sl:List (Nat×AV)} {H:List AObj} (t:Nat) {id c len:Nat} {e:TypeId} {xs:List AV} (zc:look sl t=some (.sl id c 0 len)) (za:H[id]?=some (.arr e c xs))
  (h:AWP P nt k cd Q ⟨[(t,.sl H.length c 0 len)],H.set id .dead++[.arr e c xs]⟩):AWP P nt k cd Q ⟨sl,H⟩:=λC a w ⟨I,m,hw,hs,hk,hf⟩=>by
 obtain⟨v,hv,hr⟩:=hs.2.2 t _ zc;have hid:id<H.length:=(zD.1 za).1;have hlen:(H.set id .dead++[AObj.arr e c xs]).length=H.length+1:=by simp
 have z8:∀(m':Nat->Option Nat),VR w I m' (H.length+1) v (.sl H.length c 0 len)->E5 nt [(t,AV.sl H.length c 0 len)] a w I m' (H.set id .dead++[AObj.arr e c xs]).length:=λm' zd=>⟨hs.1,hs.2.1,λt' x hx=>by
  simp only[look]at hx;split at hx
  ·rename_i e;subst e;cases hx;exact⟨v,hv,by rw[hlen];exact zd⟩
  cases hx⟩
 cases hm:m id with
 |some b=>
  have z1:=hw.obj id _ za;rw[hm]at z1;obtain⟨g1,g2⟩:=hw.adopt (w':=w) (o':= .arr e c xs) za rfl hm (World.grownBy.refl _ _) (λ_ h=>h) (λm' ze=>by
   rcases z1 with h1|⟨b',cap,vs,e1,hh,q1,q2,q3,q4,q5⟩
   ·exact .inl h1
   exact .inr ⟨b',cap,vs,e1,hh,q1,q2,q3,q4,λi x hx j y hy=>by obtain⟨v,hv,hp⟩:=q5 i x hx j y hy;exact⟨v,hv,hp.mono ze.ext⟩⟩)
  refine h C a w ⟨I,_,g1,z8 _ ?_,by rw[hlen];simp only at hk;omega,hf.trans hk g2⟩;rcases hr.sl_inv with⟨b',cap,t',hb,hn,zb,hl,hmax,rfl⟩|⟨hb,hn,_,_,_⟩|⟨ad,hn,hlo,_,_⟩
  ·rw[hm]at hb;cases hb;exact .sl H.length c 0 len cap b t' (by omega) (Q6 _ _ _) zb hl hmax
  ·rw[hm]at hb;cases hb
  omega
 |none=>
  have z1:=hw.obj id _ za;rw[hm]at z1;rcases z1 with⟨_,rfl⟩|⟨_,_,_,e1,_⟩
  ·obtain⟨g1,g2⟩:=(hw.kill id).push (Below.refl _ _) none (λb e=>by cases e) (.arr e c []) (λm' _ _=> .inl ⟨rfl,rfl⟩);simp only[wj]at g1 g2;refine h C a w ⟨I,_,g1,z8 _ ?_,by rw[hlen];simp only at hk;omega,hf.trans hk g2⟩;rcases hr.sl_inv with⟨b',cap,t',hb,hn,zb,hl,hmax,rfl⟩|⟨hb,hn,_,rfl,rfl⟩|⟨ad,hn,hlo,_,_⟩
   ·rw[hm]at hb;cases hb
   ·exact .slnone H.length c (by omega) (Q6 _ _ _)
   omega
  cases e1
def St.capSplit {C:Cx P} {a:Act} {w:World} {sl:List (Nat×AV)} {H:List AObj} (t:Nat) {id c:Nat} {e:TypeId} {xs:List AV} (hc:0<c) (zf:look sl t=some (.sl id c 0 xs.length)) (zd:H[id]?=some (.arr e c xs)) (h0:0<xs.length)
  (zg:St C nt k ⟨sl,H⟩ a w):St C nt k ⟨sl,H.set id (.arr e c (xs++[.agg (zH c .top)]))⟩ a w\/St C nt k ⟨sl,H.set id (.vars (xs.flatMap AV.cells))⟩ a w:=by
 obtain⟨I,m,hw,hs,hk,hf⟩:=zg;obtain⟨v,hv,hr⟩:=hs.2.2 t _ zf;rcases hw.obj id _ zd with⟨_,rfl⟩|⟨b,cap,vs,hb,hh,q1,q2,q3,q4,q5⟩
 ·simp at h0
 have z1:∀o',(∀m',Fut H.length w I m w I m'->Uq w I m' H.length (some b) o')->St C nt k ⟨sl,H.set id o'⟩ a w:=λo' zh=>by obtain⟨g1,g2⟩:=hw.set (o':=o') zd rfl hb (World.grownBy.refl _ _) (λ_ h=>h) zh;exact⟨I,m,g1,⟨hs.1,hs.2.1,λt x hx=>by simpa using hs.2.2 t x hx⟩,by simpa using hk,hf⟩
 rcases wa xs.length cap with z8|zi
 ·refine .inl (z1 (.arr e c (xs++[.agg (zH c .top)])) (λm' za=> .inr ⟨b,cap,vs,rfl,hh,by simp;omega,q2,q3,λx hx=>?_,λi x hx j y hy=>?_⟩))
  ·rcases xu.1 hx with h1|h1
   ·exact q4 x h1
   simp only[xd]at h1;subst h1;simp[AV.cells]
  rw[yH]at hx;split at hx
  ·obtain⟨v,h1,h2⟩:=q5 i x hx j y hy;exact⟨v,h1,h2.mono za.ext⟩
  rename_i hi;have zj:=(zD.1 hx).1;simp at zj;have zk:i=xs.length:=by omega
  subst zk;simp at hx;subst hx;simp only[AV.cells]at hy;have hj:=(zD.1 hy).1;simp at hj;have zl:y= .top:=by rw[xt,if_pos hj]at hy;exact(Option.some.inj hy).symm
  subst zl;have zb:xs.length * c+j<vs.size:=by rw[q3];have:(xs.length+1) * c<=cap * c:=zZ _ z8;rw[yA]at this;omega
  exact⟨vs[xs.length * c+j],by simp[zb],.top _⟩
 have hcap:cap=xs.length:=by omega
 subst hcap;have zm:∀(l:List AV),(∀x∈l,x.cells.length=c)->(l.flatMap AV.cells).length=l.length * c/\∀(j:Nat) (y:AV),(l.flatMap AV.cells)[j]?=some y->∃i x,l[i]?=some x/\j=i * c+j % c/\x.cells[j % c]?=some y:=by
  intro l;induction l with
  |nil=>intro _;exact⟨by simp,by simp⟩
  |cons x l ih=>
   intro hl;obtain⟨i1,i2⟩:=ih (λy hy=>hl y (by simp[hy]));have hx:=hl x (by simp);refine⟨by rw[wt,zL,i1,hx,yQ,yA,wW,wG],λj y hj=>?_⟩;rw[wt,yH,hx]at hj;split at hj
   ·rename_i z8;exact⟨0,x,rfl,by rw[wn z8];omega,by rw[wn z8];exact hj⟩
   rename_i zi;obtain⟨i,z,h1,h2,h3⟩:=i2 _ _ hj;have zc:(j - c) % c=j % c:=by
    conv=>rhs;rw[show j=(j - c)+c by omega,Nat.add_mod_right]
   rw[zc]at h2 h3;exact⟨i+1,z,by simpa using h1,by
    have ze:=h2;have zn:c<=j:=by omega
    rw[yA,wW];revert ze;generalize j % c=r;generalize i * c=q;intro ze;omega,h3⟩
 obtain⟨f1,f2⟩:=zm xs q4;refine .inr (z1 (.vars (xs.flatMap AV.cells)) (λm' za=>⟨b,e,vs,rfl,hh,by rw[q3,f1],λj v x hv hx=>?_⟩));obtain⟨i,z,h1,h2,h3⟩:=f2 j x hx;obtain⟨v',h4,h5⟩:=q5 i z h1 _ _ h3;rw[<-h2,hv]at h4;cases h4;exact .pure (h5.mono za.ext)
def Gd {wr:Bool} {sl:List (Nat×AV)} {H:List AObj} (t:Nat) {id c:Nat} {e:TypeId} {xs:List AV} (hc:0<c) (za:look sl t=some (.sl id c 0 xs.length)) (zb:H[id]?=some (.arr e c xs)) (h0:0<xs.length)
  (z1:Wu P nt k wr ops o ⟨sl,H.set id (.arr e c (xs++[.agg (zH c .top)]))⟩ R) (z8:Wu P nt k wr ops o ⟨sl,H.set id (.vars (xs.flatMap AV.cells))⟩ R):Wu P nt k wr ops o ⟨sl,H⟩ R:=λC a w K Q zc=>by
 rcases St.capSplit t hc za zb h0 zc with h|h
 ·exact z1 C a w K Q h
 exact z8 C a w K Q h
def w0h{w:World}{t e:TypeId}{ty:TypeId}(z1:P.underlying t=some (.slice e))(a:Option Addr)(n c:Nat):(Builtin.cap_ #[t] ty #[.slice a n c]).run P w= .ok (goInt c) w:=by simp[Builtin.cap_,run_underlying z1]
def Cz (hT:TOk P T) {wr:Bool} (hw:Q9 ops S o=some true) {x:Operand} {t e:TypeId} (ho:o.op= .call ⟨.builtin .cap,#[x],#[t]⟩) {it:TI} (ht:look T t=some it) (zg:it.desc= .slice e)
  {id c len:Nat} (hc:0<c) (hx:rho S.sl x=some (.sl id c 0 len)) {e':TypeId} {xs:List AV} (zc:S.hp[id]?=some (.arr e' c xs)) (hd:Ek nt o=true)
  (hR:∀n:Nat,xs.length<=n->R (S.putD o.dst (.int .i64 n))):Wu P nt k wr ops o S R:=λC a w K Q zd hK=>by
 unfold OpW;rw[if_pos (zd.wanted hw)];obtain⟨I,m,z8,ze,hk,hE⟩:=zd;have zf:=hT.und ht;rw[zg]at zf;have fin:∀(b0:Option Addr) (n0 c0:Nat),a.eval x= .slice b0 n0 c0->xs.length<=c0->wpA P o a w K Q:=λb0 n0 c0 he hle=>by
  unfold wpA;have:(execOp a.eval o).run P w= .ok (.value (goInt c0)) w:=by simp[execOp,ho,resolve,invoke,builtin,he,w0h zf]
  rw[this];exact hK _ _ w (hR c0 hle) (St.value ze hk hE z8 (Fut.refl _ _ _ _) (zR _) (Qs hd) (.pure (.int _ _))) (λ_=>Tz.refl w)
 rcases(Qu ze hx).sl_inv with⟨b,cp,t2,hb,hn,za,hl,hmax,zb⟩|⟨hb,hn,_,_,zb⟩|⟨ad,hn,hlo,_,_⟩
 ·rcases z8.obj id _ zc with⟨e1,_⟩|⟨b',zh,vs,z1,hh,q1,q2,q3,q4,hr⟩
  ·rw[hb]at e1;cases e1
  obtain rfl:b=b':=by rw[hb]at z1;exact Option.some.inj z1
  refine fin _ _ _ zb ?_;have:w.shape? b=some (e',vs.size):=by simp[World.shape?,hh]
  rw[this]at za;simp only[Option.some.injEq,Prod.mk.injEq,yW,q3]at za;rw[<-xD hc za.2];exact q1
 ·rcases z8.obj id _ zc with⟨_,e1⟩|⟨b',_,_,z1,_⟩
  ·exact fin _ _ _ zb (by rw[e1];simp)
  rw[hb]at z1;cases z1
 omega
def X2 (hT:TOk P T) {wr:Bool} (hw:Q9 ops S o=some true) {x:Operand} {t e:TypeId} (ho:o.op= .call ⟨.builtin .cap,#[x],#[t]⟩) {it:TI} (ht:look T t=some it) (zf:it.desc= .slice e)
  {id c len:Nat} (hc:0<c) (hx:rho S.sl x=some (.sl id c 0 len)) {cs:List AV} (zg:S.hp[id]?=some (.vars cs)) (n:Nat) (zh:cs.length=n * c) (hd:Ek nt o=true)
  (hR:R (S.putD o.dst (.int .i64 n))):Wu P nt k wr ops o S R:=λC a w K Q za hK=>by
 unfold OpW;rw[if_pos (za.wanted hw)];obtain⟨I,m,zb,zc,hk,hE⟩:=za;have zd:=hT.und ht;rw[zf]at zd;obtain⟨b',t',vs,z1,hh,hl',hr⟩:=zb.obj id _ zg;rcases(Qu zc hx).sl_inv with⟨b,cp,t2,hb,hn,z8,hl,hmax,ze⟩|⟨hb,hn,_,_,ze⟩|⟨ad,hn,hlo,_,_⟩
 ·obtain rfl:b=b':=by rw[hb]at z1;exact Option.some.inj z1
  have h1:w.shape? b=some (t',vs.size):=by simp[World.shape?,hh]
  rw[h1]at z8;simp only[Option.some.injEq,Prod.mk.injEq,yW,hl',zh]at z8;have zi:n=cp:=xD hc z8.2;subst zi;unfold wpA;have:(execOp a.eval o).run P w= .ok (.value (goInt n)) w:=by simp[execOp,ho,resolve,invoke,builtin,ze,w0h zd]
  rw[this];exact hK _ _ w hR (St.value zc hk hE zb (Fut.refl _ _ _ _) (zR _) (Qs hd) (.pure (.int _ _))) (λ_=>Tz.refl w)
 ·rw[hb]at z1;cases z1
 omega
def J4 (hT:TOk P T) {wr:Bool} (hw:Q9 ops S o=some true) {x y:Operand} {t e:TypeId} (ho:o.op= .slice t x none (some y) none) {it ei:TI} (ht:look T t=some it) (zi:it.desc= .slice e) (he:look T e=some ei)
  {id len:Nat} (hx:rho S.sl x=some (.sl id ei.size 0 len)) {hi:Nat} (hy:rho S.sl y=some (.int .i64 hi)) {e':TypeId} {xs:List AV} (hc:0<ei.size) (zj:S.hp[id]?=some (.arr e' ei.size xs)) (hle:hi<=xs.length) (h0:0<len) (hd:Ek nt o=true)
  (hR:R (S.putD o.dst (.sl id ei.size 0 hi))):Wu P nt k wr ops o S R:=λC a w K Q ze hK=>by
 unfold OpW;rw[if_pos (ze.wanted hw)];obtain⟨I,m,zf,zb,hk,hE⟩:=ze;have z8:=hT.und ht;rw[zi]at z8;obtain⟨ti,zn,tz,ts,tb⟩:=hT.info he;have zk:=(Qu zb hy).int_inv;rcases(Qu zb hx).sl_inv with⟨b,cp,t2,hb,hn,za,hl,hmax,zg⟩|⟨hb,hn,_,zo,zg⟩|⟨ad,hn,hlo,_,_⟩
 ·rcases zf.obj id _ zj with⟨e1,_⟩|⟨b',z1,vs,zh,hh,q1,q2,q3,q4,hr⟩
  ·rw[hb]at e1;cases e1
  obtain rfl:b=b':=by rw[hb]at zh;exact Option.some.inj zh
  have zl:z1=cp:=by
   have:w.shape? b=some (e',vs.size):=by simp[World.shape?,hh]
   rw[this]at za;simp only[Option.some.injEq,Prod.mk.injEq,yW,q3]at za;exact xD hc za.2
  subst zl;have zc:(execOp a.eval o).run P w= .ok (.value (.slice (some ⟨b,0 * ei.size,none⟩) hi z1)) w:=by
   have zd:P.elem t=e:=by simp[Program.elem,z8]
   have zm:=Rn (P:=P) true len z1 0 hi none (some (.int .i64 hi)) (.inr ⟨.i64,rfl,by omega⟩) (.inl ⟨rfl,rfl⟩) w;have h1:(Instr.sliceAt t (.slice (some ⟨b,0 * ei.size,none⟩) len z1) none (some (.int .i64 hi)) none).run P w= .ok (sliced (some ⟨b,0 * ei.size,none⟩) 0 hi z1 ei.size) w:=by rw[run_sliceAt_slice w t _ _ _ _ (by rw[zd];exact z8),run_slice_any w t (some ⟨b,0 * ei.size,none⟩) len z1 (by rw[zd];exact z8),zm,zd,Result.andThen_ok,hT.size he,Result.andThen_ok]
   have h2:sliced (some ⟨b,0 * ei.size,none⟩) 0 hi z1 ei.size= .slice (some ⟨b,0 * ei.size,none⟩) hi z1:=by unfold sliced;rw[if_neg (by omega)];simp[Addr.add]
   rw[h2]at h1;simp only[execOp,ho,zg,Option.map_none,xU,zk];rw[Sem.run_bind,h1];rfl
  unfold wpA;rw[zc];exact hK _ _ w hR (St.value zb hk hE zf (Fut.refl _ _ _ _) (zR _) (Qs hd) (.sl id ei.size 0 hi z1 b t2 hn hb za (by omega) hmax)) (λ_=>Tz.refl w)
 ·omega
 omega
end
end
section
section
variable {P:Program} [Env P] {T:TT} {nt k:Nat} {S:AS} {ops:Array Oper} {o:Oper} {R:AS->Prop} {Q:Exit->AS->Prop}
def De {w:World} (t tn ty e:TypeId) (i:TypeInfo) (z:Value) (kk kn:IntKind) (ht:P.underlying t=some (.slice e)) (zc:P.underlying tn=some (.int kn)) (hi:P.info? e=some i) (hz:i.zero=some z)
  (b:Addr) (sLen sCap:Nat) (olds:List Value) (hlo:olds.length=sLen * i.size) (holds:∀(j:Nat) (v:Value),olds[j]?=some v->w.cell? (b.add j)=some v)
  (n:Nat) (h0:0<n) (hs:0<i.size) (hg:sCap<sLen+n) (zh:((sLen+n:Nat):Int)<=9223372036854775807) (zi:n * i.bytes<=281474976710656) (zd:Builtin.nextslicecap (sLen+n) sCap * i.bytes<=281474976710656):
  (Builtin.append_ #[t,tn] ty #[.slice (some b) sLen sCap,.int kk n]).run P w=
   .ok (.slice (some ⟨w.heap.size,0,none⟩) (sLen+n) (grownCap w (sLen+n) sCap e))
    (w.drew.alloc (.cells (olds.toArray++Builtin.zeroCells z.cells n++Builtin.zeroCells z.cells (grownCap w (sLen+n) sCap e - (sLen+n))) e)):=by
 have hn:n≠0:=by omega
 have hw:IntKind.i64.wrap (n:Int)=n:=by rw[IntKind.wrap_i64];omega
 have ze:¬(sLen+n<=sCap):=by omega
 have z1:¬(9223372036854775807<((sLen:Int)+(n:Int))):=by omega
 have z8:¬(281474976710656<Builtin.nextslicecap (sLen+n) sCap * i.bytes):=by omega
 have za:¬(281474976710656<(n:Int) * (i.bytes:Int)):=by rw[<-Int.natCast_mul];omega
 have zb:¬((n:Int)<0):=by omega
 have zf:¬(n * i.size=0):=Nat.mul_ne_zero hn (by omega);have zg:=run_firstCells_some (P:=P) w.drew i.size sLen b sLen sCap olds hlo (by simpa using holds);simp[Builtin.append_,run_underlying ht,run_underlying zc,sizeOf,typeInfo,zeroValue,hi,hz,asInt,asIntOf,hw,hn,ze,zb,zf,z1,z8,za,Question.forced,zg,newRow,grownCap]
def Uh(c:Nat):∀(l:List AV),(∀x∈l,x.cells.length=c)->(l.flatMap AV.cells).length=l.length * c/\∀(p j:Nat) (x:AV),l[p]?=some x->j<c->(l.flatMap AV.cells)[p * c+j]? =x.cells[j]?
 |[],_=>⟨by simp,by simp⟩
 |a::l,h=>by
  obtain⟨i1,i2⟩:=Uh c l (λy hy=>h y (by simp[hy]));have ha:=h a (by simp);refine⟨by rw[wt,zL,i1,ha,yQ,yA,wW,wG],λp j x hp hj=>?_⟩;rw[wt,yH,ha];rcases p with _|p
  ·simp at hp;subst hp;rw[if_pos (by omega)];congr 1;omega
  rw[yA,wW,if_neg (by generalize p * c=q;omega)];rw[<-i2 p j x (by simpa using hp) hj]
  congr 1
  generalize p * c=q;omega
def Sm (hT:TOk P T) (hw:Q9 ops S o=some true) {s x:Operand} {t tn e:TypeId} (ho:o.op= .call ⟨.builtin .append,#[s,x],#[t,tn]⟩) {it itn ei:TI} (ht:look T t=some it) (zu:it.desc= .slice e)
  (zv:look T tn=some itn) {kn:IntKind} (ze:itn.desc= .int kn) (he:look T e=some ei) (hz:ei.zero.cells.size=ei.size) (zw:0<ei.size) {id i n:Nat} (hs:rho S.sl s=some (.sl id ei.size 0 i)) (hx:rho S.sl x=some (.int .i64 n))
  {xs:List AV} (zx:S.hp[id]?=some (.vars (xs.flatMap AV.cells))) (zf:∀x∈xs,x.cells.length=ei.size/\x.cells.all AV.pure=true) (hi:i<=xs.length) (hk:xs.length<i+n) (h0:0<n) (hbound:(i+n) * ei.bytes<=140737488355328) (hlen:i+n<=9223372036854775807)
  (z:AV) (zl:z.cells=ei.zeros) (hd:Ek nt o=true)
  (hR:R (({ S with hp:=S.hp++[.arr e ei.size (xs.take i++zH n z)] }:AS).putD o.dst (.sl S.hp.length ei.size 0 (i+n)))):Wu P nt k true ops o S R:=λC a w K Q zm hK=>by
 unfold OpW;rw[if_pos (zm.wanted hw)];obtain⟨I,m,zn,zg,zy,hE⟩:=zm;obtain⟨ti,zz,tz,ts,tb⟩:=hT.info he;have zo:=hT.und ht;rw[zu]at zo;have z8:=hT.und zv;rw[ze]at z8;have y0:=(Qu zg hx).int_inv;obtain⟨f1,f2⟩:=Uh ei.size xs (λx hx=>(zf x hx).1);obtain⟨b',t',vs,zd,hh,hl',hr⟩:=zn.obj id _ zx;rw[f1]at hl';rcases(Qu zg hs).sl_inv with⟨b,cp,t2,hb,hn,zh,hl,hmax,zi⟩|⟨hb,hn,_,_,zi⟩|⟨ad,hn,hlo,_,_⟩
 ·obtain rfl:b=b':=by rw[hb]at zd;exact Option.some.inj zd
  have h1:w.shape? b=some (t',vs.size):=by simp[World.shape?,hh]
  rw[h1]at zh;simp only[Option.some.injEq,Prod.mk.injEq,yW,hl']at zh;have y5:xs.length=cp:=xD zw zh.2;subst y5;have yb:i * ei.size<=vs.size:=by rw[hl'];exact zZ _ hi
  have holds:∀(j:Nat) (v:Value),(vs.toList.take (i * ei.size))[j]?=some v->w.cell? ((⟨b,0,none⟩:Addr).add j)=some v:=λj v hj=>by
   rw[Addr.add_lit,yW,cell_of_row w b j vs t' (0,0) hh];rw[yJ]at hj;split at hj
   ·simpa using hj
   cases hj
  have yc:n * ei.bytes<=(i+n) * ei.bytes:=zZ _ (by omega);have za:=De (P:=P) (w:=w) t tn o.type e ti ei.zero .i64 kn zo z8 zz tz ⟨b,0,none⟩ i xs.length (vs.toList.take (i * ei.size)) (by rw[ts];simp;omega) holds n h0 (by omega) (by omega) (by omega)
   (by rw[tb];omega) (growslice_fits (by omega) (by rw[tb];exact hbound))
  simp only[vx]at zi;have c1:=grownCap_ge w (i+n) xs.length e;have c2:grownCap w (i+n) xs.length e<=maxLen:=grownCap_le_maxLen w _ xs.length e (by unfold maxLen;omega);have zj:(vs.toList.take (i * ei.size)).length=i * ei.size:=by simp;omega
  have zp:(Builtin.zeroCells ei.zero.cells n).size=n * ei.size:=by rw[size_zeroCells,hz]
  generalize zq:(vs.toList.take (i * ei.size)).toArray++Builtin.zeroCells ei.zero.cells n++Builtin.zeroCells ei.zero.cells (grownCap w (i+n) xs.length e - (i+n))=cs at za;have zb:cs.size=grownCap w (i+n) xs.length e * ei.size:=by
   rw[<-zq];simp only[xq,yG,zj,size_zeroCells,hz,<-yA]
   congr 1;omega
  have y6:z.cells.length=ei.size:=by rw[zl,TI.zeros,xp,Array.length_toList];exact hz
  have zc:∀(p:Nat) (y:AV),(xs.take i++zH n z)[p]?=some y->(p<i/\xs[p]?=some y)\/(i<=p/\p<i+n/\y=z):=λp y hp=>by
   have e1:(xs.take i).length=i:=by simp;omega
   rw[yH,e1]at hp;split at hp
   ·rw[yJ,if_pos (by assumption)]at hp;exact .inl ⟨by assumption,hp⟩
   rw[xt]at hp;split at hp
   ·exact .inr ⟨by omega,by omega,(Option.some.inj hp).symm⟩
   cases hp
  have y7:Below w.heap.size w (w.drew.alloc (.cells cs e)):=(Below.refl _ _).drew.alloc (zR _) _;obtain⟨g1,g2⟩:=zn.push y7 (some w.heap.size) (λb e=>by injection e with e;subst e;simp) (.arr e ei.size (xs.take i++zH n z)) (λm' hf hm=> .inr ⟨w.heap.size,grownCap w (i+n) xs.length e,cs,rfl,heap_alloc_new w.drew _,by simp;omega,c2,zb,
   λy hy=>by
    obtain⟨p,hp⟩:=xm.1 hy;rcases zc p y hp with⟨_,h2⟩|⟨_,_,rfl⟩
    ·exact(zf y (zE h2)).1
    ·exact y6,λp y hp j v hv=>by
    have z1:∀q,q<i * ei.size+n * ei.size->cs[q]? =if q<i * ei.size then vs[q]? else(Builtin.zeroCells ei.zero.cells n)[q - i * ei.size]? :=λq hq=>by
     rw[<-zq,yK (by simp only[xq,yG,zj,zp];omega),Array.getElem?_append];simp only[yG,zj];split
     ·rename_i zk;rw[wM,yJ,if_pos zk];simp
     rfl
    rcases zc p y hp with⟨h1,h2⟩|⟨h1,h2,rfl⟩
    ·have y8:=zf y (zE h2);have hj:j<ei.size:=by have:=(zD.1 hv).1;omega
     have zk:p * ei.size+j<i * ei.size:=by have:(p+1) * ei.size<=i * ei.size:=zZ _ h1;rw[yA]at this;omega
     have h3:=f2 p j y h2 hj;rw[hv]at h3;rw[z1 _ (by omega),if_pos zk];have zr:p * ei.size+j<vs.size:=by omega
     refine⟨vs[p * ei.size+j],by simp[zr],?_⟩;have h4:=hr (p * ei.size+j) vs[p * ei.size+j] v (by simp[zr]) h3;exact(h4.toPure (zV.1 y8.2 v (zE hv))).mono hf.ext
    have hj:j<ei.size:=by have:=(zD.1 hv).1;omega
    have y9:¬p * ei.size+j<i * ei.size:=by have:i * ei.size<=p * ei.size:=zZ _ h1;omega
    have hq:p * ei.size+j - i * ei.size=(p - i) * ei.size+j:=by
     have:p * ei.size=i * ei.size+(p - i) * ei.size:=by rw[<-yA];congr 1;omega
     omega
    have ya:(p - i) * ei.size+j<n * ei.size:=by have:(p - i+1) * ei.size<=n * ei.size:=zZ _ (by omega);rw[yA]at this;omega
    rw[z1 _ (by omega),if_neg y9,hq];have zt:j<ei.zero.cells.size:=by omega
    refine⟨ei.zero.cells[j],?_,?_⟩
    ·rw[Array.getElem?_eq_getElem (by rw[zp];exact ya)];simp only[Builtin.zeroCells,Array.getElem_map,Array.getElem_range,Option.some.injEq];rw[hz,wG,vz,wn hj];exact getElem!_pos ei.zero.cells j zt
    have:v=zeroCell ei.zero.cells[j]:=by
     rw[zl,TI.zeros,zU]at hv;have h5:ei.zero.cells.toList[j]?=some ei.zero.cells[j]:=by simp[zt]
     rw[h5]at hv;exact(Option.some.inj hv).symm
    rw[this];exact Y3 _⟩)
  unfold wpA;have:(execOp a.eval o).run P w= .ok (.value (.slice (some ⟨w.heap.size,0,none⟩) (i+n) (grownCap w (i+n) xs.length e))) (w.drew.alloc (.cells cs e)):=by simp[execOp,ho,resolve,invoke,builtin,zi,y0,za]
  rw[this];refine hK _ _ _ hR (St.value zg zy hE g1 g2 (by simp) (Qs hd) ?_) (λe=>by cases e);have:=VR.sl (w:=w.drew.alloc (.cells cs e)) (I:=I) (m:=upd m S.hp.length (some w.heap.size)) (n:=S.hp.length+1) S.hp.length ei.size 0 (i+n) (grownCap w (i+n) xs.length e) w.heap.size e (by omega) (Q6 _ _ _)
   (by have:=heap_alloc_new w.drew (.cells cs e);simp only[World.size_drew]at this;simp only[World.shape?,this,zb,yW]) c1 (by omega)
  simpa using this
 ·rw[hb]at zd;cases zd
 omega
end
end
section
section
variable {P:Program} [Env P] {T:TT} {nt k:Nat} {S:AS} {ops:Array Oper} {o:Oper} {R:AS->Prop} {Q:Exit->AS->Prop}
def Gb (hT:TOk P T) (hw:Q9 ops S o=some true) {f:FuncId} {fn:Func} {x y:Operand} {ts:Array TypeId} (ho:o.op= .call ⟨.value (.func f),#[x,y],ts⟩) {tS tR e:TypeId}
  (hf:P.funcs[f]?=some fn) (ze:(fn.name== "runtime.NumGoroutine")=false)
  (z1:∀(vs:Array Value) (w:World),(callFunc f vs).run P w=((Extern.SlicesOverlaps.overlaps #[tS,tS] #[tR] vs).run P w).andThen λv w'=> .ok (.value v) w')
  {it ei:TI} (ht:look T tS=some it) (zi:it.desc= .slice e) (he:look T e=some ei) {i j c lo lo' n n':Nat} (hc:0<c)
  (hx:rho S.sl x=some (.sl i c lo n)) (hy:rho S.sl y=some (.sl j c lo' n')) {e1 e2:TypeId} {xs ys:List AV} (hi:S.hp[i]?=some (.arr e1 c xs)) (hj:S.hp[j]?=some (.arr e2 c ys)) (zj:i≠j) (hn:0<n) (zr:0<n') (hd:Ek nt o=true)
  (hR:R (S.putD o.dst (.bool false))):Wu P nt k true ops o S R:=λC a w K Q zf hK=>by
 unfold OpW;rw[if_pos (zf.wanted hw)];obtain⟨I,m,z8,za,zk,hE⟩:=zf;have zg:=hT.und ht;rw[zi]at zg;rcases(Qu za hx).sl_inv with⟨b,cp,t2,hb,_,zl,hl,hmax,zm⟩|⟨_,_,_,h0,_⟩|⟨_,_,_,h0,_⟩
 ·rcases(Qu za hy).sl_inv with⟨b',zb,zn,zo,_,zc,hl',zh,zd⟩|⟨_,_,_,h0,_⟩|⟨_,_,_,h0,_⟩
  ·rcases z8.obj i _ hi with⟨h1,_⟩|⟨q,cap,vs,hq,hh,p1,p2,p3,p4,p5⟩
   ·rw[hb]at h1;cases h1
   obtain rfl:b=q:=by rw[hb]at hq;exact Option.some.inj hq
   have zp:b≠b':=λe=>zj (z8.inj i j _ _ b hi hj rfl rfl hb (e▸zo));have h2:=Go.Lib.run_overlaps_apart (P:=P) w tS tR e zg ei.size (λw=>hT.size he w) ⟨b,lo * c,none⟩ ⟨b',lo' * c,none⟩ n cp n' zb zp t2 zn _ _ zl zc (by
     have:0<(lo'+zb) * c:=Nat.mul_pos (by omega) hc;omega) (by simp[World.frozen?,hh]) (by simp[World.frozen?,hh])
   unfold wpA;have:(execOp a.eval o).run P w= .ok (.value (.bool false)) w:=by have h3:=z1 #[.slice (some ⟨b,lo * c,none⟩) n cp,.slice (some ⟨b',lo' * c,none⟩) n' zb] w;rw[h2]at h3;have zq:a.eval (.func f)= .func (.func f) #[] #[]:=rfl;simp[execOp,ho,resolve,zq,Deferred.ofValue,invoke,zm,zd,h3]
   rw[this];exact hK _ _ w hR (St.value za zk hE z8 (Fut.refl _ _ _ _) (zR _) (Qs hd) (.pure (.bool _))) (λe=>by cases e)
  ·omega
  omega
 ·omega
 omega
end
end
section
section
variable {P:Program} [Env P] {T:TT} {nt k:Nat} {S:AS} {ops:Array Oper} {o:Oper} {R:AS->Prop} {Q:Exit->AS->Prop}
def Nc {cd:Code} {sl:List (Nat×AV)} {H:List AObj} (id c:Nat) {xs:List AV} (z8:H[id]?=some (.vars (xs.flatMap AV.cells))) (z1:∀x∈xs,x.cells.length=c/\x.cells.all AV.pure=true) (hlen:xs.length<=9223372036854775807)
  (h:∀e,AWP P nt k cd Q ⟨sl,H.set id (.arr e c xs)⟩):AWP P nt k cd Q ⟨sl,H⟩:=λC a w ⟨I,m,hw,hs,hk,hf⟩=>by
 obtain⟨b,t,vs,hb,hh,hl,hr⟩:=hw.obj id _ z8;obtain⟨f1,f2⟩:=Uh c xs (λx hx=>(z1 x hx).1);obtain⟨g1,g2⟩:=hw.set (o':= .arr t c xs) z8 rfl hb (World.grownBy.refl _ _) (λ_ h=>h) (λm' zb=> .inr ⟨b,xs.length,vs,rfl,hh,zR _,by unfold maxLen;omega,by rw[hl,f1],λx hx=>(z1 x hx).1,λi x hx j y hy=>by
  have zc:=z1 x (zE hx);have hj:j<c:=by have:=(zD.1 hy).1;omega
  have h3:=f2 i j x hx hj;rw[hy]at h3;have za:i * c+j<vs.size:=by rw[hl];exact(zD.1 h3).1
  exact⟨vs[i * c+j],by simp[za],((hr _ vs[i * c+j] y (by simp[za]) h3).toPure (zV.1 zc.2 y (zE hy))).mono zb.ext⟩⟩)
 exact h t C a w ⟨I,m,g1,⟨hs.1,hs.2.1,λt x hx=>by simpa using hs.2.2 t x hx⟩,by simpa using hk,hf⟩
end
end
section
section
variable {P:Program} [Env P] {T:TT} {nt k:Nat} {S:AS} {ops:Array Oper} {o:Oper} {R:AS->Prop}
@[simp] theorem valA_slice3 (T:TT) (S:AS) (g:Bool) (t:TypeId) (x:Operand) (lo hi:Option Operand) (mx:Operand):Sk T S g (.slice t x lo hi (some mx))=none:=rfl
end
end
section
def AV.fv(i:Nat)(xs:List AV):AV->AV
 | .agg cs=> .agg (cs.attach.map λ⟨x,_⟩=>x.fv i xs)
 | .tup cs=> .tup (cs.attach.map λ⟨x,_⟩=>x.fv i xs)
 | .fn f ys zs=> .fn f (ys.attach.map λ⟨x,_⟩=>x.fv i xs) (zs.attach.map λ⟨x,_⟩=>x.fv i xs)
 | .vptr id off=>if id=i then .iptr (xs.drop off)else .vptr id off
 | .opt p x=> .opt p (x.fv i xs)
 |x=>x
section
variable (i:Nat) (xs:List AV)
theorem x0v(cs:List AV):(AV.agg cs).fv i xs= .agg (cs.map (AV.fv i xs)):=by rw[AV.fv];simp
theorem z0h(cs:List AV):(AV.tup cs).fv i xs= .tup (cs.map (AV.fv i xs)):=by rw[AV.fv];simp
theorem g08(f:Fn)(ys zs:List AV):(AV.fn f ys zs).fv i xs= .fn f (ys.map (AV.fv i xs)) (zs.map (AV.fv i xs)):=by rw[AV.fv];simp
theorem f0f(b:Bool):(AV.bool b).fv i xs= .bool b:=by simp[AV.fv]
theorem w1t(k:IntKind)(n:Int):(AV.int k n).fv i xs= .int k n:=by simp[AV.fv]
theorem z1s(x:List UInt8):(AV.str x).fv i xs= .str x:=by simp[AV.fv]
theorem c01(x:List AV):(AV.list x).fv i xs= .list x:=by simp[AV.fv]
theorem f0q(x:List AV):(AV.iptr x).fv i xs= .iptr x:=by simp[AV.fv]
theorem f06:(AV.nils).fv i xs= .nils:=by simp[AV.fv]
theorem d0t:(AV.nilp).fv i xs= .nilp:=by simp[AV.fv]
theorem f0s:(AV.nilf).fv i xs= .nilf:=by simp[AV.fv]
theorem d0y:(AV.nili).fv i xs= .nili:=by simp[AV.fv]
theorem z1p:(AV.ifc).fv i xs= .ifc:=by simp[AV.fv]
theorem w1c:(AV.top).fv i xs= .top:=by simp[AV.fv]
theorem u0s(a b d e:Nat):(AV.sl a b d e).fv i xs= .sl a b d e:=by simp[AV.fv]
theorem g0u(a b d e:Nat):(AV.ept a b d e).fv i xs= .ept a b d e:=by simp[AV.fv]
theorem v0d(a:Nat):(AV.mref a).fv i xs= .mref a:=by simp[AV.fv]
theorem g0k(a:Nat):(AV.yld a).fv i xs= .yld a:=by simp[AV.fv]
theorem y0o(id off:Nat):(AV.vptr id off).fv i xs=if id=i then .iptr (xs.drop off)else .vptr id off:=by rw[AV.fv]
theorem g0j(p:Bool)(x:AV):(AV.opt p x).fv i xs= .opt p (x.fv i xs):=by simp[AV.fv]
end
def AObj.fv(i:Nat)(xs:List AV):AObj->AObj
 | .vars cs=> .vars (cs.map (AV.fv i xs))
 | .arr e c' ys=> .arr e c' ys
 | .dead=> .dead
 | .tag id t=> .tag id t
 | .lp rdy pend nt sl ps asg body=> .lp rdy pend nt (sl.map λp=>(p.1,p.2.fv i xs)) ps asg body
 | .mp kvs=> .mp kvs
 | .va e c' ys=> .va e c' (ys.map (AV.fv i xs))
 | .it left cur=> .it left cur
 | .fm kvs=> .fm kvs
 | .mv kvs=> .mv (kvs.map λp=>(p.1,p.2.fv i xs))
def Vw(i:Nat)(xs:List AV)(x:AV):(x.fv i xs).cells=x.cells.map (AV.fv i xs):=by
 cases x with
 |vptr a b=>by_cases h:a=i<;>simp[AV.fv,AV.cells,h]
 |_=>simp[AV.fv,AV.cells]
def c0o{w:World}{I:Nat->Prop}{v:Value}{x:AV}(i:Nat)(xs:List AV)(h:PVR w I v x):x.fv i xs=x:=by
 have key:∀(vs:Array Value) (cs:List AV),vs.size=cs.length->(∀(k:Nat) (v:Value) (x:AV),vs[k]?=some v->cs[k]?=some x->x.fv i xs=x)->cs.map (AV.fv i xs)=cs:=λvs cs hl ih=>by
  refine xk λk=>?_;rw[zU];cases hx:cs[k]? with
  |none=>rfl
  |some x=>
   have hk:k<vs.size:=by rw[hl];exact(zD.1 hx).1
   rw[xU,ih k vs[k] x (by simp[hk]) hx]
 induction h with
 |agg vs cs hl h ih=>rw[x0v,key vs cs hl ih]
 |tup vs cs hl h ih=>rw[z0h,key vs cs hl ih]
 |fn f vs us ys zs hl h hl' h' ih ih'=>rw[g08,key vs ys hl ih,key us zs hl' ih']
 |_=>simp[AV.fv]
def Jz{H:List AObj}{xs ys:List AV}(h:Qy (xs.map (Q7 []))=some ys):Qy (xs.map (Q7 H))=some ys:=by
 induction xs generalizing ys with
 |nil=>exact h
 |cons x xs ih=>
  simp only[z_]at h |-;cases hx:Q7 [] x with
  |none=>rw[hx]at h;cases h
  |some y=>
   rw[hx]at h;have:Q7 H x=some y:=by cases x<;>first|exact hx|(simp[Q7]at hx)
   rw[this];simp only[Qy]at h |-;obtain⟨zs,hz,rfl⟩:=zM.1 h;rw[ih hz];rfl
section
variable {P:Program} [Env P] {nt k:Nat} {Q:Exit->AS->Prop} {W0 w:World} {I0 I:Nat->Prop} {m:Nat->Option Nat} {H:List AObj}
def VR.fv(hw:WS W0 I0 w I m H){i:Nat}{xs ys:List AV}(zc:Qy (xs.map (Q7 []))=some ys)(hi:H[i]?=some (.vars xs)){v:Value}{x:AV}(h:VR w I m H.length v x):
  VR w (λb=>I b\/m i=some b) m H.length v (x.fv i ys):=by
 have z8:Ext w w I (λb=>I b\/m i=some b):=⟨λ_ h=> .inl h,λ_ _=>rfl⟩
 have zb:i<H.length:=(zD.1 hi).1
 -- the other objects set aside
 have z1:∀(id:Nat) (o:AObj),((zH H.length AObj.dead).set i (.vars xs))[id]?=some o->(id=i/\o= .vars xs)\/o= .dead:=λid o ho=>by
  by_cases hid:id=i
  ·subst hid;rw[zJ (by simpa using zb)]at ho;exact .inl ⟨rfl,(Option.some.inj ho).symm⟩
  rw[zI (by omega),xt]at ho;split at ho
  ·exact .inr (Option.some.inj ho).symm
  cases ho
 have hw1:WS W0 I0 w I m ((zH H.length AObj.dead).set i (.vars xs)):=by
  refine⟨hw.below,hw.i0,hw.iw,λid o ho=>?_,λid o b ho hl hm=>?_,λa b oa ob d ha hb la lb ma mb=>?_⟩
  ·rcases z1 id o ho with⟨rfl,rfl⟩|rfl
   ·have:=hw.obj _ _ hi;simpa using this
   trivial
  ·rcases z1 id o ho with⟨rfl,rfl⟩|rfl
   ·exact hw.own _ _ b hi rfl hm
   cases hl
  rcases z1 a oa ha with⟨rfl,rfl⟩|rfl
  ·rcases z1 b ob hb with⟨rfl,rfl⟩|rfl
   ·rfl
   cases lb
  cases la
 have za:∀b,Mt I m ((zH H.length AObj.dead).set i (.vars xs)) b->I b\/m i=some b:=λb hb=>by
  rcases hb with hb|⟨id,o,ho,hl,hm⟩
  ·exact .inl hb
  rcases z1 id o ho with⟨rfl,rfl⟩|rfl
  ·exact .inr hm
  cases hl
 induction h with
 |pure h=>rw[c0o i ys h];exact .pure (h.mono z8)
 |agg vs cs hl h ih=>rw[x0v];refine .agg vs _ (by simpa using hl) λj v x hv hx=>?_;rw[zU]at hx;obtain⟨y,hy,rfl⟩:=zM.1 hx;exact ih j v y hv hy
 |tup vs cs hl h ih=>rw[z0h];refine .tup vs _ (by simpa using hl) λj v x hv hx=>?_;rw[zU]at hx;obtain⟨y,hy,rfl⟩:=zM.1 hx;exact ih j v y hv hy
 |fn f vs us ps qs hl h hl' h' ih ih'=>
  rw[g08];refine .fn f vs us _ _ (by simpa using hl) (λj v x hv hx=>?_) (by simpa using hl') (λj v x hv hx=>?_)
  ·rw[zU]at hx;obtain⟨y,hy,rfl⟩:=zM.1 hx;exact ih j v y hv hy
  rw[zU]at hx;obtain⟨y,hy,rfl⟩:=zM.1 hx;exact ih' j v y hv hy
 |vptr id off b hn hb=>
  rw[y0o];have hv:VR w I m H.length _ _:= .vptr id off b hn hb;split
  ·rename_i hc;subst hc;have:=Yn hw1 (by simpa using hv) (y:= .iptr (ys.drop off)) (by
    simp only[Wn,zJ (show id<(zH H.length AObj.dead).length by simpa using zb)];rw[Jz zc];rfl)
   exact .pure (this.mono ⟨za,λ_ _=>rfl⟩)
  exact .vptr id off b hn hb
 |ept id c' j off b hn hb=>rw[g0u];exact .ept id c' j off b hn hb
 |yld id b hn hb=>rw[g0k];exact .yld id b hn hb
 |mref id b hn hb=>rw[v0d];exact .mref id b hn hb
 |opt p x h1 h2 ih=>rw[g0j];exact .opt p _ ih h2
 |sl id c' lo len cap b t hn hb hs hl hmax=>rw[u0s];exact .sl id c' lo len cap b t hn hb hs hl hmax
 |slnone id c' hn hb=>rw[u0s];exact .slnone id c' hn hb
 |slend id c' lo a hn hlo=>rw[u0s];exact .slend id c' lo a hn hlo
def Ck{i:Nat}{ys:List AV}{t:Nat}{x:AV}:∀ {sl:List (Nat×AV)},look (sl.map λp=>(p.1,p.2.fv i ys)) t=some x->∃y,look sl t=some y/\x=y.fv i ys
 |[],hx=>by cases hx
 |(t',y)::r,hx=>by
  simp only[z_,look]at hx |-;split
  ·rename_i e;subst e;simp at hx;exact⟨y,rfl,hx.symm⟩
  rename_i e;rw[if_neg e]at hx;exact Ck hx
def Uq.fv(hw:WS W0 I0 w I m H){i:Nat}{xs ys:List AV}(z8:Qy (xs.map (Q7 []))=some ys)(hi:H[i]?=some (.vars xs)){b? :Option Nat}{o:AObj}(h:Uq w I m H.length b? o):
  Uq w (λb=>I b\/m i=some b) m H.length b? (o.fv i ys):=by
 have z1:Ext w w I (λb=>I b\/m i=some b):=⟨λ_ h=> .inl h,λ_ _=>rfl⟩
 cases o with
 |vars cs=>obtain⟨b,t,vs,e1,hh,hl,hr⟩:=h;refine⟨b,t,vs,e1,hh,by simpa using hl,λj v x hv hx=>?_⟩;rw[zU]at hx;obtain⟨y,hy,rfl⟩:=zM.1 hx;exact(hr j v y hv hy).fv hw z8 hi
 |arr e' c' zs=>
  rcases h with h|⟨b,cap,vs,e1,hh,h1,h2,h3,h4,hr⟩
  ·exact .inl h
  exact .inr ⟨b,cap,vs,e1,hh,h1,h2,h3,h4,λi x hx j y hy=>by obtain⟨v,hv,hp⟩:=hr i x hx j y hy;exact⟨v,hv,hp.mono z1⟩⟩
 |it left cur=>obtain⟨r,bm,es,ck,since,seen,c0,e1,hh,hI,hm,h1,h2,h3,h4,h5,hr,za⟩:=h;exact⟨r,bm,es,ck,since,seen,c0,e1,hh,.inl hI,hm,h1,h2,h3,h4,h5,λi x p a d=>⟨(hr i x p a d).1.mono z1,(hr i x p a d).2.mono z1⟩,λp hp=>by obtain⟨e2,sn,q1,q2,q3,q4,q5⟩:=za p hp;exact⟨e2,sn,q1,q2,q3,q4.mono z1,q5.mono z1⟩⟩
 |va e' c' zs=>
  rcases h with⟨h7,h8⟩|⟨b,cap,vs,e1,hh,h1,h2,h3,h4,hr⟩
  ·exact .inl ⟨h7,by rw[h8];rfl⟩
  refine .inr ⟨b,cap,vs,e1,hh,by simpa using h1,h2,h3,λx hx=>?_,λk x hx j y hy=>?_⟩
  ·obtain⟨z,hz,rfl⟩:=xg.1 hx;rw[Vw,xp];exact h4 z hz
  rw[zU]at hx;obtain⟨z,hz,rfl⟩:=zM.1 hx;rw[Vw,zU]at hy;obtain⟨u,hu,rfl⟩:=zM.1 hy;obtain⟨v,hv,hp⟩:=hr k z hz j u hu;exact⟨v,hv,hp.fv hw z8 hi⟩
 |dead=>trivial
 |fm kvs=>obtain⟨b,es,ck,e1,hI,hh,hl,hr⟩:=h;exact⟨b,es,ck,e1,.inl hI,hh,hl,λi x p a d=>⟨(hr i x p a d).1.mono z1,(hr i x p a d).2.mono z1⟩⟩
 |tag j t=>exact h
 |lp rdy pend nt sl ps asg body=>obtain⟨b,r,e1,hh,q1,q2,q3,q4,q5,q6,q7⟩:=h;refine⟨b,r,e1,hh,q1,q2,q3,q4,q5,q6,λt x hx=>?_⟩;obtain⟨y,hy,rfl⟩:=Ck hx;obtain⟨v,hv,hr⟩:=q7 t y hy;exact⟨v,hv,hr.fv hw z8 hi⟩
 |mp kvs=>obtain⟨b,es,ck,e1,hh,hl,hr⟩:=h;exact⟨b,es,ck,e1,hh,hl,λi x p a d=>⟨(hr i x p a d).1.mono z1,(hr i x p a d).2.mono z1⟩⟩
 |mv kvs=>obtain⟨b,es,ck,e1,hh,hl,hr⟩:=h;refine⟨b,es,ck,e1,hh,⟨by simpa using hl.size,hl.born,hl.nodup⟩,λi x p a d=>?_⟩;rw[zU]at d;obtain⟨q,hq,rfl⟩:=zM.1 d;exact⟨(hr i x q a hq).1.mono z1,(hr i x q a hq).2.fv hw z8 hi⟩
def St.freezeV{C:Cx P}{a:Act}{w:World}{sl:List (Nat×AV)}{H:List AObj}(hs:St C nt k ⟨sl,H⟩ a w)(i:Nat){xs ys:List AV}(za:Qy (xs.map (Q7 []))=some ys)(hi:H[i]?=some (.vars xs)):
  St C nt k ⟨sl.map λp=>(p.1,p.2.fv i ys),(H.set i .dead).map (AObj.fv i ys)⟩ a w:=by
 obtain⟨I,m,hw,zb,hk,hf⟩:=hs;have zc:Ext w w I (λb=>I b\/m i=some b):=⟨λ_ h=> .inl h,λ_ _=>rfl⟩
 have hlen:((H.set i .dead).map (AObj.fv i ys)).length=H.length:=by simp
 have z8:∀(id:Nat) (o:AObj),((H.set i .dead).map (AObj.fv i ys))[id]?=some o->o.live=true->id≠i/\∃o',H[id]?=some o'/\o=o'.fv i ys/\o'.live=true:=λid o ho hl=>by
  rw[zU]at ho;obtain⟨o',z1,rfl⟩:=zM.1 ho;by_cases hid:id=i
  ·subst hid;rw[zJ (zD.1 hi).1]at z1;cases z1;simp[AObj.fv,AObj.live]at hl
  rw[zI (by omega)]at z1;exact⟨hid,o',z1,rfl,by cases o'<;>exact hl⟩
 refine⟨λb=>I b\/m i=some b,m,⟨hw.below,λb hb=> .inl (hw.i0 b hb),λb hb=>?_,λid o ho=>?_,λid o b ho hl hm=>?_,λa b oa ob d ha hb la lb ma mb=>?_⟩,⟨zb.1,zb.2.1,λt x hx=>?_⟩,by rw[hlen];exact hk,hf.trans hk ⟨zc,λ_ _=>rfl,λ_ _ h=>h⟩⟩
 ·rcases hb with hb|hb
  ·exact hw.iw b hb
  have:=hw.own i _ b hi rfl hb;exact⟨this.2.2,.inr this.1⟩
 ·rw[hlen];by_cases hl:o.live=true
  ·obtain⟨_,o',z1,rfl,_⟩:=z8 id o ho hl;exact(hw.obj id o' z1).fv hw za hi
  rw[zU]at ho;obtain⟨o',z1,rfl⟩:=zM.1 ho;by_cases hid:id=i
  ·subst hid;rw[zJ (zD.1 hi).1]at z1;cases z1;trivial
  rw[zI (by omega)]at z1;cases o' with
  |vars cs=>exact absurd rfl hl
  |arr e c xs=>exact absurd rfl hl
  |dead=>trivial
  |tag j t=>exact hw.obj id _ z1
  |lp rdy pend nt sl ps asg body=>exact absurd rfl hl
  |mp kvs=>exact absurd rfl hl
  |va e c xs=>exact absurd rfl hl
  |it left cur=>exact absurd rfl hl
  |fm kvs=>exact(hw.obj id _ z1).fv hw za hi
  |mv kvs=>exact absurd rfl hl
 ·obtain⟨zd,o',z1,rfl,hl'⟩:=z8 id o ho hl;have h1:=hw.own id o' b z1 hl' hm;refine⟨h1.1,λhc=>?_,h1.2.2⟩;rcases hc with hc|hc
  ·exact h1.2.1 hc
  exact zd (hw.inj id i o' _ b z1 hi hl' rfl hm hc)
 ·obtain⟨_,ze,zf,_,zg⟩:=z8 a oa ha la;obtain⟨_,zh,zi,_,zj⟩:=z8 b ob hb lb;exact hw.inj a b ze zh d zf zi zg zj ma mb
 rw[hlen];have:=Ck hx;obtain⟨y,hy,rfl⟩:=this;obtain⟨v,hv,hr⟩:=zb.2.2 t y hy;exact⟨v,hv,hr.fv hw za hi⟩
def Ur{cd:Code}{sl:List (Nat×AV)}{H:List AObj}(i:Nat){xs ys:List AV}(z1:Qy (xs.map (Q7 []))=some ys)(hi:H[i]?=some (.vars xs))(h:AWP P nt k cd Q ⟨sl.map λp=>(p.1,p.2.fv i ys),(H.set i .dead).map (AObj.fv i ys)⟩):AWP P nt k cd Q ⟨sl,H⟩:=
 λC a w hs=>h C a w (hs.freezeV i z1 hi)
def Je{wr:Bool}{ops:Array Oper}{o:Oper}{R:AS->Prop}{sl:List (Nat×AV)}{H:List AObj}(i:Nat){xs ys:List AV}(z1:Qy (xs.map (Q7 []))=some ys)(hi:H[i]?=some (.vars xs))(h:Wu P nt k wr ops o ⟨sl.map λp=>(p.1,p.2.fv i ys),(H.set i .dead).map (AObj.fv i ys)⟩ R):Wu P nt k wr ops o ⟨sl,H⟩ R:=
 λC a w K Q hs=>h C a w K Q (hs.freezeV i z1 hi)
end
attribute [simp] v0d g0k x0v z0h g08 f0f w1t z1s c01 f0q f06 d0t f0s d0y z1p w1c y0o g0u u0s g0j AObj.fv
end
section
open Go.ChangeShapes Go.WideShapes
section
variable {H:Type} {enc:TypeId×Value->H} {P:Program} [Env P] {T:TT} {W:World}
def TOk.cellsOf(hT:TOk P T){t:TypeId}{i:TI}(h:look T t=some i):P.cellsOf t=i.size:=by obtain⟨j,hj,_,hs,_⟩:=TOk.info hT h;simp[Program.cellsOf,hj,hs]
def TOk.bytesOf(hT:TOk P T){t:TypeId}{i:TI}(h:look T t=some i):P.bytesOf t=i.bytes:=by obtain⟨j,hj,_,_,hs⟩:=TOk.info hT h;simp[Program.bytesOf,hj,hs]
def v0o(i:TI)(zs:List AV):AV:=if i.agg then .agg zs else zs.headD .top
def u1c(R:TypeId->List AV->Prop):List TypeId->List AV->Prop
 |[],ys=>ys=[]
 |t::ts,ys=>∃zs rest,ys=zs++rest/\R t zs/\u1c R ts rest
def v1y(R:List AV->Prop):Nat->List AV->Prop
 |0,ys=>ys=[]
 |n+1,ys=>∃zs rest,ys=zs++rest/\R zs/\v1y R n rest
def g0f(T:TT)(R:TypeId->List AV->Prop)(i:TI)(ys:List AV):Prop:=match i.desc with
 | .bool=>∃b,ys=[.bool b]
 | .int k=>∃n,ys=[.int k n]/\k.min<=n/\n<=k.max
 | .string=>∃s:List UInt8,ys=[.str s]/\s.length<=reachBytes
 | .slice e=>∃ei xs,look T e=some ei/\ys=[.list xs]/\xs.length * ei.bytes<=reachBytes/\∀x∈xs,∃zs,x=v0o ei zs/\R e zs
 | .struct fs=>u1c R (fs.toList.map (·.type)) ys
 | .array n e=>v1y (R e) n ys
 |_=>False
def Shp(T:TT):Nat->TypeId->List AV->Prop
 |0,_,_=>False
 |d+1,t,ys=>match look T t with
  |some i=>g0f T (Shp T d) i ys
  |none=>False
def Zz(T:TT):List Field->Nat->Nat->Bool
 |[],off,size=>off==size
 |f::fs,off,size=>f.offset==off && (match look T f.type with
  |some i=>Zz T fs (off+i.size) size
  |none=>false)
def Iu(T:TT):Nat->TypeId->Bool
 |0,_=>false
 |d+1,t=>match look T t with
  |some i=>match i.desc with
   | .bool| .int _| .string=>i.size==1
   | .slice e=>i.size==1 && Iu T d e && (match look T e with
    |some ei=>(ei.agg || ei.size==1) && decide (0<ei.size)
    |none=>false)
   | .struct fs=>Zz T fs.toList 0 i.size && fs.toList.all λf=>Iu T d f.type
   | .array n e=>Iu T d e && (match look T e with
    |some ei=>i.size==n * ei.size
    |none=>false)
   |_=>false
  |none=>false
def Of(W:World)(cs:List Value)(ys:List AV):Prop:=cs.length=ys.length/\∀(j:Nat) (v:Value) (y:AV),cs[j]?=some v->ys[j]?=some y->PVR W (·<W.heap.size) v y
def Of.one{v:Value}{y:AV}(h:PVR W (·<W.heap.size) v y):Of W [v] [y]:=by
 refine⟨rfl,λj u z hu hz=>?_⟩;rcases j with _|j
 ·simp only[xr,Option.some.injEq]at hu hz;subst hu;subst hz;exact h
 simp at hu
def Of.app{cs cs':List Value}{ys ys':List AV}(h:Of W cs ys)(h':Of W cs' ys'):Of W (cs++cs') (ys++ys'):=by
 refine⟨by simp[h.1,h'.1],λj u z hu hz=>?_⟩;rw[yH]at hu hz;rw[h.1]at hu;split at hu
 ·rename_i hj;rw[if_pos hj]at hz;exact h.2 j u z hu hz
 rename_i hj;rw[if_neg hj]at hz;exact h'.2 _ u z hu hz
def Yz{α β:Type}{f:α->Option β}{a:α}{l:List α}{r:List β}(h:(a::l).mapM f=some r):∃b bs,f a=some b/\l.mapM f=some bs/\r=b::bs:=by rw[List.mapM_cons]at h;simp only[Option.pure_def,Option.bind_eq_bind,yS,Option.some.injEq]at h;obtain⟨b,hb,bs,z1,rfl⟩:=h;exact⟨b,bs,hb,z1,rfl⟩
def Goal(enc:TypeId×Value->H)(P:Program)(T:TT)(W:World)(d:Nat)(t:TypeId):Prop:=∀(fuel:Nat) (cs:List Value) (x:DataW H×List MemPlace),
 DataW.trod enc P W 0 (λ_=>true) true fuel t cs=some x->(∀n∈x.1.weights P t,n<=reachBytes)->∃ys,Shp T d t ys/\Of W cs ys
def Fa(hT:TOk P T){d:Nat}:∀(fs:List Field) (off size:Nat) (cs:List Value),Zz T fs off size=true->cs.length=size->(∀f∈fs,Goal enc P T W d f.type)->∀(fuel:Nat) (xs:List (DataW H×List MemPlace)),
  (fs.mapM λf=>DataW.trod enc P W 0 (λ_=>true) true fuel f.type ((cs.drop f.offset).take (P.cellsOf f.type)))=some xs->(∀n∈DataW.weightsEach P (fs.map (·.type)) (xs.map (·.1)),n<=reachBytes)->
  ∃ys,u1c (Shp T d) (fs.map (·.type)) ys/\Of W (cs.drop off) ys
 |[],off,size,cs,hc,hl,_,fuel,xs,h,_=>by simp only[Zz,beq_iff_eq]at hc;refine⟨[],rfl,?_⟩;rw[xE (by omega)];exact⟨rfl,by simp⟩
 |f::fs,off,size,cs,hc,hl,hg,fuel,xs,h,hw=>by
  simp only[Zz,zX,beq_iff_eq]at hc;obtain⟨z1,hc⟩:=hc;split at hc
  ·rename_i i hi;obtain⟨b,bs,hb,z8,rfl⟩:=Yz h;simp only[z_,DataW.weightsEach,xu]at hw;have za:P.cellsOf f.type=i.size:=TOk.cellsOf hT hi;rw[z1,za]at hb;obtain⟨zs,zb,zc⟩:=hg f (by simp) fuel _ b hb (λn hn=>hw n (.inl hn));obtain⟨rest,zd,ze⟩:=Fa hT fs (off+i.size) size cs hc hl (λg zf=>hg g (by simp[zf])) fuel bs z8 (λn hn=>hw n (.inr hn));refine⟨zs++rest,⟨zs,rest,rfl,zb,zd⟩,?_⟩;have:cs.drop off=(cs.drop off).take i.size++cs.drop (off+i.size):=by rw[<-uz,yN]
   rw[this];exact zc.app ze
  cases hc
def G9{d:Nat}{e:TypeId}{c:Nat}(hg:Goal enc P T W d e):∀(n s:Nat) (cs:List Value),cs.length=(s+n) * c->∀(fuel:Nat) (xs:List (DataW H×List MemPlace)),
  ((wK s n).mapM λi=>DataW.trod enc P W 0 (λ_=>true) true fuel e ((cs.drop (i * c)).take c))=some xs->(∀k∈DataW.weightsAll P e (xs.map (·.1)),k<=reachBytes)->
  ∃ys,v1y (Shp T d e) n ys/\Of W (cs.drop (s * c)) ys
 |0,s,cs,hl,fuel,xs,h,_=>by refine⟨[],rfl,?_⟩;rw[xE (by rw[hl];simp)];exact⟨rfl,by simp⟩
 |n+1,s,cs,hl,fuel,xs,h,hw=>by
  rw[wL]at h;obtain⟨b,bs,hb,z1,rfl⟩:=Yz h;simp only[z_,DataW.weightsAll,xu]at hw;obtain⟨zs,z8,za⟩:=hg fuel _ b hb (λk hk=>hw k (.inl hk));obtain⟨rest,zb,zc⟩:=G9 hg n (s+1) cs (by rw[hl];congr 1;omega) fuel bs z1 (λk hk=>hw k (.inr hk));refine⟨zs++rest,⟨zs,rest,rfl,z8,zb⟩,?_⟩;have:cs.drop (s * c)=(cs.drop (s * c)).take c++cs.drop ((s+1) * c):=by rw[yA,wW,<-uz,yN]
  rw[this];exact za.app zc
def Gw{d:Nat}{e:TypeId}{c:Nat}(hg:Goal enc P T W d e){a:Addr}(fuel:Nat):∀(n s:Nat) (xs:List (DataW H×List MemPlace)),
  ((wK s n).mapM λi=>(W.cells? 0 (a.add (i * c)) c).bind (DataW.trod enc P W 0 (λ_=>true) true fuel e))=some xs->(∀k∈DataW.weightsAll P e (xs.map (·.1)),k<=reachBytes)->
  ∃z1:List (List AV),z1.length=n/\(∀ys∈z1,Shp T d e ys/\ys.length=c)/\∀i ys,z1[i]?=some ys->∃cs,W.cells? 0 (a.add ((s+i) * c)) c=some cs/\Of W cs ys
 |0,s,xs,h,_=>⟨[],rfl,by simp,by simp⟩
 |n+1,s,xs,h,hw=>by
  rw[wL]at h;obtain⟨b,bs,hb,zc,rfl⟩:=Yz h;simp only[z_,DataW.weightsAll,xu]at hw;obtain⟨cs,za,hb⟩:=yS.1 hb;obtain⟨zs,zd,zb⟩:=hg fuel _ b hb (λk hk=>hw k (.inl hk));obtain⟨z1,h1,h2,h3⟩:=Gw hg fuel n (s+1) bs zc (λk hk=>hw k (.inr hk));have ze:=(World.cells?_some za).2.1;refine⟨zs::z1,by simp[h1],λys z8=>?_,λi ys hi=>?_⟩
  ·rcases y_.1 z8 with rfl|z8
   ·exact⟨zd,by rw[<-zb.1,ze]⟩
   exact h2 ys z8
  rcases i with _|i
  ·simp only[xr,Option.some.injEq]at hi;subst hi;exact⟨cs,by simpa using za,zb⟩
  obtain⟨zf,h4,h5⟩:=h3 i ys (by simpa using hi);exact⟨zf,by rw[show s+(i+1)=s+1+i by omega];exact h4,h5⟩
def c08{a:Addr}{v:Value}(h:W.cell? a=some v):a.block<W.heap.size:=by
 rcases wa a.block W.heap.size with h'|h'
 ·exact h'
 simp[World.cell?,Array.getElem?_eq_none h']at h
def M6{ei:TI}{zs:List AV}(z1:ei.agg=true\/zs.length=1)(hl:ei.agg=false->∀z∈zs,z.cells=[z]):(v0o ei zs).cells=zs:=by
 unfold v0o;split
 ·rfl
 rename_i h;have h':ei.agg=false:=by simpa using h
 rcases z1 with h1|h1
 ·rw[h1]at h';cases h'
 obtain⟨z,rfl⟩:=List.length_eq_one_iff.1 h1;exact hl h' z (by simp)
def Shp.leafs{d:Nat}{e:TypeId}{ei:TI}{ys:List AV}(h:Shp T d e ys)(he:look T e=some ei)(ha:ei.agg=false):∀z∈ys,z.cells=[z]:=by
 cases d with
 |zero=>exact h.elim
 |succ d=>
  unfold Shp at h;rw[he]at h;simp only[g0f]at h;unfold TI.agg at ha;split at h
  ·obtain⟨b,rfl⟩:=h;simp[AV.cells]
  ·obtain⟨n,rfl,_⟩:=h;simp[AV.cells]
  ·obtain⟨s,rfl,_⟩:=h;simp[AV.cells]
  ·obtain⟨_,xs,_,rfl,_⟩:=h;simp[AV.cells]
  ·rename_i hd;rw[hd]at ha;cases ha
  ·rename_i hd;rw[hd]at ha;cases ha
  exact h.elim
def I7(hT:TOk P T):∀(d:Nat) (t:TypeId),Iu T d t=true->Goal enc P T W d t
 |0,_,hs=>by cases hs
 |d+1,t,hs=>by
  intro fuel cs x h hw;unfold Iu at hs;cases hi:look T t with
  |none=>rw[hi]at hs;cases hs
  |some i=>
   rw[hi]at hs;simp only at hs;have hu:=TOk.und hT hi;have hc:=TOk.cellsOf hT hi;cases fuel with
   |zero=>simp[DataW.trod]at h
   |succ fuel=>
    unfold DataW.trod at h;simp only[Shp,hi,g0f];have z1:∀ {q:TypeDesc},P.underlying t=some q->i.desc=q:=λhq=>by rw[hu]at hq;exact Option.some.inj hq
    split at h
    case h_1 b hq=>rw[z1 hq]at hs |-;simp only[Option.some.injEq]at h;exact⟨_,⟨b,rfl⟩,.one (.bool b)⟩
    case h_2 k k' n hq=>
     rw[z1 hq]at hs |-;split at h
     ·rename_i hk;obtain⟨rfl,hk⟩:=hk;simp only[Lit.wf,zX,decide_eq_true_eq]at hk;exact⟨_,⟨n,rfl,hk.1,hk.2⟩,.one (.int _ n)⟩
     cases h
    case h_4 s hq=>
     rw[z1 hq]at hs |-;split at h
     ·simp only[Option.some.injEq]at h;subst h;refine⟨_,⟨s.data.toList,rfl,hw _ (by simp[DataW.weights])⟩,.one ?_⟩;have:Value.string s= .string ⟨s.data.toList.toArray⟩:=by cases s;simp
      rw[this];exact .str _
     cases h
    case h_7 e hq=>
     rw[z1 hq]at hs |-;simp only[zX]at hs;obtain⟨⟨_,zh⟩,z8⟩:=hs;cases he:look T e with
     |none=>rw[he]at z8;cases z8
     |some ei=>exact⟨_,⟨ei,[],he,rfl,by simp,by simp⟩,.one (.list _ _ _ 0 _ (λ_ _=>undef) rfl (by simp) (by unfold maxLen;omega) (by simp) (λh0=>by simp at h0) (by simp))⟩
    case h_8 e a len cap hq=>
     rw[z1 hq]at hs |-;simp only[zX]at hs;obtain⟨⟨_,zh⟩,z8⟩:=hs;cases he:look T e with
     |none=>rw[he]at z8;cases z8
     |some ei=>
      rw[he]at z8;simp only[zX,Bool.or_eq_true,beq_iff_eq,decide_eq_true_eq]at z8;obtain⟨z8,hz⟩:=z8;have zf:=TOk.cellsOf hT he;have zj:=TOk.bytesOf hT he;rw[zf]at h;split at h
      ·rename_i hcap;simp only[yS,zM]at h;obtain⟨elems,zg,rest,_,rfl⟩:=h;simp only[DataW.weights,hq,y_,xu]at hw;rw[vd]at zg;obtain⟨zd,h1,h2,h3⟩:=Gw (I7 hT d e zh) fuel len 0 elems zg (λk hk=>hw k (.inr (.inl hk)));have hlen:elems.length=len:=by have:=mapM_some_length zg;simpa using this
       have zc:∀ys∈zd,(v0o ei ys).cells=ys:=λys za=>by have:=h2 ys za;refine M6 (z8.imp_right λh=>by rw[this.2,h]) (λha=>this.1.leafs he ha)
       refine⟨_,⟨ei,zd.map (v0o ei),he,rfl,?_,λx hx=>?_⟩,.one ?_⟩
       ·have:=hw _ (.inl rfl);simp only[xp]at this |-;rw[zj]at this;rw[h1];refine yD (zZ _ ?_) this;omega
       ·obtain⟨ys,za,rfl⟩:=xg.1 hx;exact⟨ys,rfl,(h2 ys za).1⟩
       refine .list (some a) len cap ei.size _ (λi j=>(((W.cells? 0 (a.add (i * ei.size)) ei.size).getD [])[j]?).getD undef) (by simp[h1]) (by simp[h1];exact hcap.2.1) hcap.2.2 (λx hx=>?_) (λh0=>?_) (λi x hx j y hy=>?_)
       ·obtain⟨ys,za,rfl⟩:=xg.1 hx;rw[zc ys za];exact(h2 ys za).2
       ·have key:∀i j,i<(zd.map (v0o ei)).length->j<ei.size->W.cell? (a.add (i * ei.size+j))=some ((((W.cells? 0 (a.add (i * ei.size)) ei.size).getD [])[j]?).getD undef):=λi j zi hj=>by
         simp only[xp]at zi;obtain⟨cs,zb,hr⟩:=h3 i zd[i] (by simp[zi]);rw[yW]at zb;rw[zb,xQ];obtain⟨_,q2,q3⟩:=World.cells?_some zb;have:=q3 j hj;rw[add_add]at this;rw[this];have zk:j<cs.length:=by omega
         simp[zk]
        refine⟨a,rfl,λ_=>?_,key⟩;have:=c08 (key 0 0 h0 hz)
        rwa [block_add]at this
       rw[zU]at hx;obtain⟨ys,za,rfl⟩:=zM.1 hx;have hm:=zE za;rw[zc ys hm]at hy;obtain⟨cs,zb,hr⟩:=h3 i ys za;rw[yW]at zb;rw[zb,xQ];have hj:j<cs.length:=by rw[hr.1];exact(zD.1 hy).1
       have:=hr.2 j cs[j] y (by simp[hj]) hy;simpa[hj]using this
      cases h
    case h_9 cs _ _ fs hq=>
     rw[z1 hq]at hs |-;simp only[zX,zV]at hs;split at h
     ·rename_i hl;rw[hc]at hl;obtain⟨xs,ze,rfl⟩:=zM.1 h;simp only[DataW.weights,hq]at hw;obtain⟨ys,h1,h2⟩:=Fa hT fs.toList 0 i.size cs hs.1 hl (λf hf=>I7 hT d f.type (hs.2 f hf)) fuel xs ze hw;exact⟨ys,h1,by simpa using h2⟩
     cases h
    case h_10 cs _ _ n e hq=>
     rw[z1 hq]at hs |-;simp only[zX]at hs;cases he:look T e with
     |none=>rw[he]at hs;cases hs.2
     |some ei=>
      rw[he]at hs;simp only[beq_iff_eq]at hs;have zf:=TOk.cellsOf hT he;split at h
      ·rename_i hl;rw[hc,hs.2]at hl;obtain⟨xs,ze,rfl⟩:=zM.1 h;simp only[DataW.weights,hq]at hw;rw[zf,vd]at ze;obtain⟨ys,h1,h2⟩:=G9 (I7 hT d e hs.1) n 0 cs (by simpa using hl) fuel xs ze hw;exact⟨ys,h1,by simpa using h2⟩
      cases h
    all_goals first
     |(cases h;done)
     |(rename_i hq;rw[z1 hq]at hs;cases hs;done)
     |(rename_i hq _;rw[z1 hq]at hs;cases hs;done)
     |(rename_i hq _ _;rw[z1 hq]at hs;cases hs;done)
     |skip
def Uj(T:TT)(d:Nat):List TypeId->List AV->Prop
 |[],xs=>xs=[]
 |t::ts,xs=>∃i zs rest,look T t=some i/\xs=v0o i zs::rest/\Shp T d t zs/\Uj T d ts rest
def j0y (hT:TOk P T) {d:Nat} {t:TypeId} (hs:Iu T d t=true) {r:Reach} {base:Nat} {v:Value} (z1:Value.okWide P W r base t v) {D:DataW H} {ps:List MemPlace} (h:DataW.Trod enc P W 0 (λ_=>true) true t v D ps)
  (hw:∀n∈D.weights P t,n<=reachBytes):∃i zs,look T t=some i/\Shp T d t zs/\PVR W (·<W.heap.size) v (v0o i zs):=by
 obtain⟨fuel,hf⟩:=h;obtain⟨ys,h1,h2⟩:=I7 hT d t hs fuel _ _ hf hw;cases d with
 |zero=>cases hs
 |succ d=>
  have z8:=h1;unfold Shp at h1;cases hi:look T t with
  |none=>rw[hi]at h1;exact h1.elim
  |some i=>
   rw[hi]at h1;have hu:=TOk.und hT hi;refine⟨i,ys,rfl,z8,?_⟩;unfold Value.okWide at z1;rw[hu]at z1;unfold v0o;by_cases ha:i.agg=true
   ·rw[if_pos ha];unfold TI.agg at ha;have:∃cs,v= .agg cs:=by
     split at ha
     ·rename_i hd;rw[hd]at z1;obtain⟨cs,hc,_⟩:=z1;exact⟨cs,hc⟩
     ·rename_i hd;rw[hd]at z1;obtain⟨cs,hc,_⟩:=z1;exact⟨cs,hc⟩
     cases ha
    obtain⟨cs,rfl⟩:=this;exact .agg cs ys (by simpa[Value.cells]using h2.1) (λj u y hu hy=>h2.2 j u y (by simpa[Value.cells]using hu) hy)
   rw[if_neg ha];have za:∃y,ys=[y]:=by
    simp only[g0f]at h1;unfold TI.agg at ha;split at h1
    ·obtain⟨b,rfl⟩:=h1;exact⟨_,rfl⟩
    ·obtain⟨b,rfl,_⟩:=h1;exact⟨_,rfl⟩
    ·obtain⟨b,rfl,_⟩:=h1;exact⟨_,rfl⟩
    ·obtain⟨_,xs,_,rfl,_⟩:=h1;exact⟨_,rfl⟩
    ·rename_i hd;rw[hd]at ha;exact absurd rfl ha
    ·rename_i hd;rw[hd]at ha;exact absurd rfl ha
    exact h1.elim
   obtain⟨y,rfl⟩:=za;have zb:∀cs,v≠ .agg cs:=by
    rintro cs rfl;have hcell:Cell.okWide P W r base t (.agg cs):=by
     unfold TI.agg at ha;split at z1
     ·rename_i heq;rw[Option.some.inj heq]at ha;exact absurd rfl ha
     ·rename_i heq;rw[Option.some.inj heq]at ha;exact absurd rfl ha
     exact z1
    simp only[g0f]at h1;unfold Cell.okWide at hcell;rw[hu]at hcell;split at h1;all_goals first|(exact h1.elim)|skip
    all_goals (rename_i hd;rw[hd]at hcell)
    all_goals first|(simp[Cell.ok,hu,hd]at hcell;done)|skip
   have zc:v.cells.toList=[v]:=by cases v<;>first|rfl|exact absurd rfl (zb _)
   rw[zc]at h2;exact h2.2 0 v y rfl rfl
def K6(hT:TOk P T){d:Nat}{r:Reach}{base:Nat}:∀(ts:List TypeId) (vs:List Value) (ds:List (DataW H)) (ps:List MemPlace),ts.all (Iu T d)=true->DataW.TrodAll enc P W 0 (λ_=>true) true ts vs ds ps->
  (∀(j:Nat) t v,ts[j]?=some t->vs[j]?=some v->Value.okWide P W r base t v)->(∀n∈DataW.weightsEach P ts ds,n<=reachBytes)->
  ds.length=ts.length/\∃xs,Uj T d ts xs/\vs.length=xs.length/\∀(j:Nat) (v:Value) (x:AV),vs[j]?=some v->xs[j]?=some x->PVR W (·<W.heap.size) v x
 |[],vs,ds,ps,_,h,_,_=>by obtain⟨rfl,rfl,_⟩:=trodAll_nil h;exact⟨rfl,[],rfl,rfl,by simp⟩
 |t::ts,vs,ds,ps,hs,h,z1,hw=>by
  obtain⟨v,z8,D,za,p,q,rfl,rfl,rfl,h0,h1⟩:=trodAll_cons h;simp only[wg,zX]at hs;simp only[DataW.weightsEach,xu]at hw;obtain⟨i,zs,g1,g2,g3⟩:=j0y hT hs.1 (z1 0 t v rfl rfl) h0 (λn hn=>hw n (.inl hn));obtain⟨k0,xs,k1,k2,k3⟩:=K6 hT ts z8 za q hs.2 h1 (λj t v a b=>z1 (j+1) t v (by simpa using a) (by simpa using b)) (λn hn=>hw n (.inr hn));refine⟨by simp[k0],v0o i zs::xs,⟨i,zs,xs,g1,rfl,g2,k1⟩,by simp[k2],λj u x hu hx=>?_⟩;rcases j with _|j
  ·simp only[xr,Option.some.injEq]at hu hx;subst hu;subst hx;exact g3
  exact k3 j u x (by simpa using hu) (by simpa using hx)
def P8(hl:laidOutB P=true){W':World}{sp:Nat->Bool}:∀(ts:List TypeId) (vs:List Value) (ds:List (DataW H)) (ps:List MemPlace),(ts.all λt=>P.readableRec t && decide (t<P.types.size))=true->
  DataW.TrodAll enc P W 0 (λ_=>true) true ts vs ds ps->(∀p∈ps,W.sameAt W' p)->(∀p∈ps,sp p.block=true)->DataW.TrodAll enc P W' 0 sp true ts vs ds ps
 |[],vs,ds,ps,_,h,_,_=>by obtain⟨rfl,rfl,rfl⟩:=trodAll_nil h;rfl
 |t::ts,vs,ds,ps,hr,h,z1,hsp=>by
  obtain⟨v,z8,D,za,p,q,rfl,rfl,rfl,h0,h1⟩:=trodAll_cons h;simp only[wg,zX,decide_eq_true_eq]at hr;exact⟨p,q,WideElems.Trod_stays hl hr.1.1 hr.1.2 h0 (λx hx=>z1 x (by simp[hx])) (λx hx=>hsp x (by simp[hx])),
   P8 hl ts z8 za q hr.2 h1 (λx hx=>z1 x (by simp[hx])) (λx hx=>hsp x (by simp[hx])),rfl⟩
def My {fn:Func} {s:ChangeSpec} {apart fresh handsOn again:Bool} {W':World} {args:Array Value} {ds:List (DataW H)} {before:List MemPlace} {tb:TypeId} (hl:laidOutB P=true)
  (z8:fn.resultTypes= #[tb]) (hb:P.underlying tb=some .bool) (za:(fn.params.toList.all λt=>P.readableRec t && decide (t<P.types.size))=true) (z1:s.vars=[])
  (zb:s.fn H ds={ results:=[.lit (.bool true)],args:=ds })
  (hW:DataW.Whole enc P fn.params.toList s.vars apart W args.toList ds [] before) (zd:Below W.heap.size W W'):s.post enc P fn apart fresh handsOn again W args (.bool true) W':=by
 have zc:=hW.lt;have ze:=hW;obtain⟨p,q,hA,hV,rfl,hz,hn⟩:=hW;rw[z1]at hV;obtain⟨_,rfl⟩:=trodVars_none hV;simp only[xY]at ze zc hz hn;have zf:∀sp:Nat->Bool,(∀x∈p,sp x.block=true)->DataW.TrodAll enc P W' 0 sp true fn.params.toList args.toList ds p:=λsp zh=>P8 hl _ _ _ _ za hA (λx hx=>zd.same (zc x hx)) zh;have hold:∀x∈p,(λb=>decide (b<W.heap.size)) x.block=true:=λx hx=>by simpa using zc x hx
 have zg:∀(b:Nat) (sp:Nat->Bool) (hd:Bool),DataW.TrodAll enc P W' b sp hd fn.resultTypes.toList ((Value.bool true).resultList fn.resultTypes.size) (s.fn H ds).results []:=λb sp hd=>by rw[z8,zb];exact trodAll_mk1 (shut_bool hb true)
 refine⟨ds,[],p,[],p,[],ze,by simpa using zg _ _ _,by simpa[zb]using zf _ hold,by rw[xY,zb,z1];rfl,World.keptBut_mono (λx hx=>⟨hx,.inr (.inl hx)⟩) (zd.frame (·∈p)),λ_=>?_⟩;refine⟨ok_one z8 rfl (okWide_bool_mk hb true),_,[],([]++p)++[],⟨[]++p,[],trodAll_append (by simpa[zb]using zf _ (λ_ _=>rfl)) (by simpa using zg _ _ _),by rw[z1];rfl,rfl,?_,?_⟩,?_⟩
 ·intro b off hp;simp only[wo,xY]at hp;have zi:=zc _ hp;rw[zd.frozen zi];exact hz b off hp
 ·intro ha;simpa using hn ha
 intro x hx _;simpa using hx
def w0y (hT:TOk P T) (hl:laidOutB P=true) {f:FuncId} {fn:Func} {d:Nat} {tb:TypeId} (zb:fn.resultTypes= #[tb]) (hb:P.underlying tb=some .bool)
  (za:(fn.params.toList.all λt=>P.readableRec t && decide (t<P.types.size))=true) (z1:fn.params.toList.all (Iu T d)=true)
  (hE:EOK P W (·<W.heap.size)) (ze:∀xs,Uj T d fn.params.toList xs->PC P f xs (λr=>r= .bool true)) {s:ChangeSpec} (z8:s.vars=[])
  (zf:∀ds:List (DataW H),ds.length=fn.params.toList.length->s.fn H ds={ results:=[.lit (.bool true)],args:=ds }) {apart fresh handsOn again:Bool}
  {base:Nat} {args:Array Value} {ds gs:List (DataW H)} {before:List MemPlace} (zc:∀(j:Nat) t v,fn.params[j]?=some t->args[j]?=some v->Value.okWide P W .any base t v)
  (hW:DataW.Whole enc P fn.params.toList s.vars apart W args.toList ds gs before) {vt:List TypeId} (zg:vt=[]) (zd:(DataW.weightsEach P (fn.params.toList++vt) (ds++gs)).all (·<=reachBytes)=true):
  Calls P f args W λe W'=>∃v,e= .returned v/\s.post enc P fn apart fresh handsOn again W args v W':=by
 have zh:=hW;obtain⟨p,q,hA,hV,rfl,hz,hn⟩:=hW;rw[z8]at hV;obtain⟨rfl,rfl⟩:=trodVars_none hV;rw[zg,xY,xY]at zd;have hw:∀n∈DataW.weightsEach P fn.params.toList ds,n<=reachBytes:=λn hn=>by simpa using zV.1 zd n hn
 obtain⟨hlen,xs,hx,zi,zj⟩:=K6 hT fn.params.toList args.toList ds p z1 hA (λj t v a b=>zc j t v (by simpa using a) (by simpa using b)) hw;refine((ze xs hx).2 W (·<W.heap.size) args hE (λ_ h=>h) (by simpa using zi) (λj v x a b=>zj j v x (by simpa using a) b)).mono ?_;rintro e W' ⟨v,I',r,rfl,rfl,zk,_,_,hv⟩;cases hv;exact⟨_,rfl,My hl zb hb za z8 (zf ds hlen) (by simpa using zh) zk⟩
end
end
section
section
variable {P:Program} [Env P] {T:TT} {nt k:Nat} {S:AS} {ops:Array Oper} {o:Oper} {R:AS->Prop}
@[simp] def byteAV (c:UInt8):AV:= .int .u8 c.toNat
def Le(c:UInt8):(byteAV c).cells=[byteAV c]:=rfl
def Dy (hT:TOk P T) {wr:Bool} (hw:Q9 ops S o=some true) {x:Operand} {src dst e:TypeId} (ho:o.op= .convert src dst x) {it ei idst:TI} (ht:look T src=some it) (zh:it.desc= .slice e) (he:look T e=some ei) (zi:ei.desc= .int .u8)
  (zb:look T dst=some idst) (hid:idst.desc= .string) {xv:AV} (hx:rho S.sl x=some xv) {s:List UInt8} (hs:U3 S.hp xv=some (s.map byteAV)) (hd:Ek nt o=true) (hR:R (S.putD o.dst (.str s))):Wu P nt k wr ops o S R:=λC a w K Q zd hK=>by
 unfold OpW;rw[if_pos (zd.wanted hw)];obtain⟨I,m,ze,zf,hk,hE⟩:=zd;obtain⟨ao,cap,u,zg,hcell,zj⟩:=Ou ze (Qu zf hx) hs;have z1:=hT.und ht;rw[zh]at z1;have z8:=hT.und he;rw[zi]at z8;have za:=hT.und zb;rw[hid]at za;rw[xp]at zg hcell;have zc:(convert src dst (a.eval x)).run P w= .ok (.string ⟨s.toArray⟩) w:=by
  rw[zg];rcases xz s.length with h0|h0
  ·have zk:=xi h0;subst zk;cases ao with
   |none=>rw[run_convert_bytes_string w src dst e none _ cap z1 z8 za];simp[Conv.bytesToString];rfl
   |some ad=>exact run_convert_bytes_back w src dst e ad cap [] z1 z8 za (λj hj=>by simp at hj)
  obtain⟨ad,rfl,c,zl,zm⟩:=hcell h0;refine run_convert_bytes_back w src dst e ad cap s z1 z8 za (λj hj=>?_);have hc:c=1:=by rw[<-zl (byteAV s[0]) (xg.2 ⟨s[0],yB h0,rfl⟩)];rfl
  subst hc;have h1:=zm j 0 hj (by omega);rw[wY,wy]at h1;have h2:=zj j (byteAV s[j]) (by simp[hj]) 0 (byteAV s[j]) rfl;rw[h1];have h3:u j 0= .int .u8 (s[j]).toNat:=(VR.pure (m:=m) (n:=0) h2).int_inv;rw[h3]
 unfold wpA;have:(execOp a.eval o).run P w= .ok (.value (.string ⟨s.toArray⟩)) w:=by simp only[execOp,ho];rw[Sem.run_bind,zc];rfl
 rw[this];exact hK _ _ w hR (St.value zf hk hE ze (Fut.refl _ _ _ _) (zR _) (Qs hd) (.pure (.str _))) (λ_=>Tz.refl w)
def D4 (hT:TOk P T) (hw:Q9 ops S o=some true) {s x:Operand} {t tu e:TypeId} (ho:o.op= .call ⟨.builtin .append,#[s,x],#[t,tu]⟩) {it iu ei:TI} (yf:look T tu=some iu) (yg:iu.desc= .string) (zb:ei.size=1) (ht:look T t=some it) (yh:it.desc= .slice e) (he:look T e=some ei)
  (hz:ei.zero.cells.size=ei.size) (yi:0<ei.size) {sv:AV} (hs:rho S.sl s=some sv) {str:List UInt8} (hx:rho S.sl x=some (.str str)) {xs:List AV} {H1:List AObj} (hb:R8 S e ei.size sv=some (xs,H1)) (hbound:(xs.length+str.length) * ei.bytes<=140737488355328) (hlen:xs.length+str.length<=9223372036854775807) (hd:Ek nt o=true)
  (hR:R (({ S with hp:=H1++[.arr e ei.size (xs++str.map byteAV)] }:AS).putD o.dst (.sl S.hp.length ei.size 0 (xs.length+str.length)))):Wu P nt k true ops o S R:=λC a w K Q y7 hK=>by
 unfold OpW;rw[if_pos (y7.wanted hw)];obtain⟨I,m,zi,zx,hk,hE⟩:=y7;have zp:=(Qu zx hx).str_inv;have zc:=hT.und yf;rw[yg]at zc;obtain⟨ys,zq⟩:∃ys,ys=str.map byteAV:=⟨_,rfl⟩
 obtain⟨u,hu⟩:∃u:Nat->Nat->Value,u=λi _=> .int .u8 (str.getD i 0).toNat:=⟨_,rfl⟩
 have zk:ys.length=str.length:=by rw[zq,xp]
 rw[<-zq,<-zk]at hR;rw[<-zk]at hbound hlen;have zd:(⟨str.toArray⟩:ByteArray).size=ys.length:=by rw[zk];simp[ByteArray.size]
 have y8:∀y∈ys,y.cells.length=ei.size/\y.cells.all AV.leaf=true:=λy hy=>by rw[zq]at hy;obtain⟨c,_,rfl⟩:=xg.1 hy;rw[zb];exact⟨rfl,rfl⟩
 have y9:∀(i:Nat) (x:AV),ys[i]?=some x->∀(j:Nat) (y:AV),x.cells[j]?=some y->PVR w I (u i j) y:=λi x hx j y hy=>by
  rw[zq,zU]at hx;obtain⟨c,hc,rfl⟩:=zM.1 hx;rw[Le]at hy;have yj:y=byteAV c:=by
   rcases j with _|j
   ·simpa using hy.symm
   simp at hy
  subst yj;have:str.getD i 0=c:=by simp[uL,hc]
  rw[hu];simp only[this];exact .int _ _
 have zy:Lib.strCells ⟨str.toArray⟩=Qm u ys.length ei.size:=by
  refine xk λq=>?_;rcases wa q str.length with hq|hq
  ·have:=Th u ys.length 1 q 0 (by omega) (by omega);rw[wY,wy]at this;rw[zb,this,hu];simp[Lib.strCells,hq,uL]
  rw[wb (by rw[Lib.strCells_length,zd];omega),wb (by rw[Qn,zb];omega)]
 have ya:=Qu zx hs;obtain⟨ti,zr,tz,ts,tb⟩:=hT.info he;have zl:=hT.und ht;rw[yh]at zl;have zt:H1.length=S.hp.length:=by
  unfold R8 at hb;split at hb
  ·simp only[Option.some.injEq,Prod.mk.injEq]at hb;rw[<-hb.2]
  ·split at hb
   ·split at hb
    ·simp only[Option.some.injEq,Prod.mk.injEq]at hb;rw[<-hb.2];simp
    cases hb
   cases hb
  cases hb
 -- what the run comes to decides all
 have fin:∀(v:Value) (w':World) (m':Nat->Option Nat),(Builtin.append_ #[t,tu] o.type #[a.eval s,a.eval x]).run P w= .ok v w'->WS C.W0 C.I0 w' I m' (H1++[.arr e ei.size (xs++ys)])->Fut S.hp.length w I m w' I m'->
   VR w' I m' (S.hp.length+1) v (.sl S.hp.length ei.size 0 (xs.length+ys.length))->wpA P o a w K Q:=λv w' m' z8 g1 g2 g3=>by
  unfold wpA;have:(execOp a.eval o).run P w= .ok (.value v) w':=by simp[execOp,ho,resolve,invoke,builtin,z8]
  rw[this];exact hK _ _ w' hR (St.value zx hk hE g1 g2 (by simp[zt]) (Qs hd) (by simpa[zt]using g3)) (λe=>by cases e)
 -- nothing is appended
 have zero:ys=[]->∀(b0:Option Addr) (n0 c0:Nat),n0<=c0->a.eval s= .slice b0 n0 c0->(Builtin.append_ #[t,tu] o.type #[a.eval s,a.eval x]).run P w= .ok (.slice b0 n0 c0) w:=λze b0 n0 c0 hle zu=>by
  have zz:str=[]:=by rw[ze]at zk;exact xi (by simpa using zk.symm)
  rw[zu,zp,zz];have yb:(⟨([]:List UInt8).toArray⟩:ByteArray).size=0:=rfl;have hf:=Lib.run_firstCells_string (P:=P) (w:=w) ti.size ⟨([]:List UInt8).toArray⟩;rw[yb]at hf;have yk:Lib.strCells ⟨([]:List UInt8).toArray⟩=[]:=rfl;cases b0<;>simp[Builtin.append_,run_underlying zl,run_underlying zc,sizeOf,typeInfo,zr,Builtin.lenOf,yb,hle,hf,yk,storeCells]
 -- a new row
 have newrow:∀(za:Nat) (cs:Array Value),xs.length+ys.length<=za->za<=maxLen->cs.size=za * ei.size->
   (∀(i:Nat) (z:AV),(xs++ys)[i]?=some z->z.cells.length=ei.size/\∀(j:Nat) (y:AV),z.cells[j]?=some y->∃v,cs[i * ei.size+j]?=some v/\PVR w I v y)->
   (Builtin.append_ #[t,tu] o.type #[a.eval s,a.eval x]).run P w= .ok (.slice (some ⟨w.heap.size,0,none⟩) (xs.length+ys.length) za) (w.drew.alloc (.cells cs e))->WS C.W0 C.I0 w I m H1->wpA P o a w K Q:=λza cs h1 h2 h3 h4 z8 hw1=>by
  have yl:Below w.heap.size w (w.drew.alloc (.cells cs e)):=(Below.refl _ _).drew.alloc (zR _) _;obtain⟨g1,g2⟩:=hw1.push yl (some w.heap.size) (λb e=>by injection e with e;subst e;simp) (.arr e ei.size (xs++ys)) (λm' hf hm=> .inr ⟨w.heap.size,za,cs,rfl,heap_alloc_new w.drew _,by simpa using h1,h2,h3,
   λz zg=>by obtain⟨i,hi⟩:=xm.1 zg;exact(h4 i z hi).1,λi z hi j y hy=>by obtain⟨v,q1,q2⟩:=(h4 i z hi).2 j y hy;exact⟨v,q1,q2.mono hf.ext⟩⟩)
  rw[zt]at g1 g2;refine fin _ _ _ z8 g1 g2 ?_;have:=VR.sl (w:=w.drew.alloc (.cells cs e)) (I:=I) (m:=upd m S.hp.length (some w.heap.size)) (n:=S.hp.length+1) S.hp.length ei.size 0 (xs.length+ys.length) za w.heap.size e (by omega) (Q6 _ _ _)
   (by have:=heap_alloc_new w.drew (.cells cs e);simp only[World.size_drew]at this;simp only[World.shape?,this,h3,yW]) h1 (by omega)
  simpa using this
 have zm:∀y∈ys,y.cells.length=ei.size:=λy hy=>(y8 y hy).1;have one:∀v∈Qm u ys.length ei.size,v.oneCell'=true:=λv hv=>by obtain⟨q,hq⟩:=xm.1 hv;obtain⟨_,_,q1,q2,q3,rfl⟩:=Ro _ _ _ _ _ hq;have ym:ys[q / ei.size]?=some ys[q / ei.size]:=zG q1;have yu:=zm _ (yB q1);have yc:(ys[q / ei.size]).cells[q % ei.size]?=some ((ys[q / ei.size]).cells[q % ei.size]'(by omega)):=zG (by omega);exact(VR.pure (m:=m) (n:=0) (y9 _ _ ym _ _ yc)).oneCell (zV.1 (y8 _ (yB q1)).2 _ (zE yc))
 have yrel:∀(i:Nat) (z:AV),ys[i]?=some z->∀(j:Nat) (y:AV),z.cells[j]?=some y->(Qm u ys.length ei.size)[i * ei.size+j]?=some (u i j)/\PVR w I (u i j) y:=λi z zg j y hy=>by have hi:=(zD.1 zg).1;have hj:=(zD.1 hy).1;rw[zm z (zE zg)]at hj;exact⟨Th _ _ _ _ _ hi hj,y9 i z zg j y hy⟩
 have capw:∀zv,xs.length+ys.length<=grownCap w (xs.length+ys.length) zv e/\grownCap w (xs.length+ys.length) zv e<=maxLen:=λzv=>
  ⟨grownCap_ge _ _ _ _,grownCap_le_maxLen w _ zv e (by unfold maxLen;omega)⟩
 have fromNone:a.eval s= .slice none 0 0->xs=[]->WS C.W0 C.I0 w I m H1->wpA P o a w K Q:=λzu yn hw1=>by
  subst yn;rcases xz ys.length with h0|h0
  ·have ze:=xi h0;have z8:=zero ze none 0 0 (zR _) zu;obtain⟨g1,g2⟩:=hw1.push (Below.refl _ _) none (λb e=>by cases e) (.arr e ei.size ([]++ys)) (λm' _ _=> .inl ⟨rfl,by simp[ze]⟩);rw[zt]at g1 g2;refine fin _ _ _ z8 g1 g2 ?_;rw[h0];exact .slnone _ _ (by omega) (Q6 _ _ _)
  have z8:=run_append_nil_string (P:=P) w t tu o.type e ti ei.zero zl zc zr tz ⟨str.toArray⟩ (by omega) (by simp at hlen;omega) (by rw[tb,zd];simp at hbound;omega);have e1:((⟨str.toArray⟩:ByteArray).data.map λb=>Value.int .u8 b.toNat)=(Qm u ys.length ei.size).toArray:=by rw[<-zy];apply Array.ext';simp[Lib.strCells]
  rw[e1,zd]at z8;obtain⟨c1,c2⟩:=capw 0;simp only[wH,yW]at c1 c2;refine newrow (grownCap w ys.length 0 e) _ (by simpa using c1) c2 ?_ ?_ (by rw[zu,zp];simpa[-Value.cells]using z8) hw1
  ·simp only[xq,yG,Qn,size_zeroCells,hz,<-yA]
   congr 1;omega
  intro i z hi;simp only[wo]at hi;refine⟨zm z (zE hi),λj y hy=>?_⟩;obtain⟨q1,q2⟩:=yrel i z hi j y hy;exact⟨_,by rw[yK (by simpa using(zD.1 q1).1)];simpa using q1,q2⟩
 unfold R8 at hb;split at hb
 ·simp only[Option.some.injEq,Prod.mk.injEq]at hb;obtain⟨rfl,rfl⟩:=hb;exact fromNone ya.nils_inv rfl zi
 ·rename_i id c' len;split at hb
  ·rename_i e' c'' z1 zw;split at hb
   ·rename_i hc;obtain⟨rfl,rfl,rfl,rfl⟩:=hc;simp only[Option.some.injEq,Prod.mk.injEq]at hb;obtain⟨rfl,rfl⟩:=hb;have zf:=zi.kill id;rcases ya.sl_inv with⟨b,cp,t',hb,hn,y0,hl',hmax,zj⟩|⟨hb,hn,_,yv,zj⟩|⟨ad,hn,hlo,_,_⟩
    ·rcases zi.obj id _ zw with⟨e1,_⟩|⟨b',yo,vs,zn,hh,q1,q2,q3,q4,hr⟩
     ·rw[hb]at e1;cases e1
     obtain rfl:b=b':=by rw[hb]at zn;exact Option.some.inj zn
     have yp:cp=yo:=by
      have:w.shape? b=some (e',vs.size):=by simp[World.shape?,hh]
      rw[this]at y0;simp only[Option.some.injEq,Prod.mk.injEq,yW,q3]at y0;exact(xD yi y0.2).symm
     subst yp;simp only[vx]at zj;have xrel:∀(i:Nat) (z:AV),z1[i]?=some z->∀j,j<ei.size->i * ei.size+j<z1.length * ei.size:=λi z hi j hj=>by have:(i+1) * ei.size<=z1.length * ei.size:=zZ _ (zD.1 hi).1;rw[yA]at this;omega
     have yq:z1.length * ei.size<=vs.size:=by rw[q3];exact zZ _ q1
     have yd:∀(w':World),w'.shape? b=some (e',cp * ei.size)->z1.length+ys.length<=cp->VR w' I (upd m S.hp.length (some b)) (S.hp.length+1) (.slice (some ⟨b,0,none⟩) (z1.length+ys.length) cp) (.sl S.hp.length ei.size 0 (z1.length+ys.length)):=λw' yr hle=>by have:=VR.sl (w:=w') (I:=I) (m:=upd m S.hp.length (some b)) (n:=S.hp.length+1) S.hp.length ei.size 0 (z1.length+ys.length) cp b e' (by omega) (Q6 _ _ _) (by simpa using yr) hle (by omega);simpa using this
     rcases xz ys.length with h0|h0
     ·have ze:=xi h0;have z8:=zero ze _ _ _ hl' zj;obtain⟨g1,g2⟩:=zi.adopt (w':=w) (o':= .arr e' ei.size (z1++ys)) zw rfl hb (World.grownBy.refl _ _) (λ_ h=>h) (λm' hf=> .inr ⟨b,cp,vs,rfl,hh,by simp[ze,q1],q2,q3,by simpa[ze]using q4,by simpa[ze]using hr⟩);refine fin _ _ _ z8 g1 g2 ?_;have:=yd w (by simp[World.shape?,hh,q3]) (by omega);rw[h0]at this |-;exact this
     by_cases hroom:z1.length+ys.length<=cp
     ·have zo:z1.length * ti.size+(Qm u ys.length ei.size).length<=vs.size:=by rw[Qn,ts,q3,<-yA];exact zZ _ hroom
      have z8:=Lib.run_append_room_string (P:=P) (w:=w) t tu o.type e' ti zl zc zr (by rw[ts];exact zb) b z1.length cp vs hh ⟨str.toArray⟩ (by rw[zd];exact hroom) (by rw[zd,q3,zb,wY];exact hroom);rw[ts]at zo;rw[zy,zd]at z8;have z8:(Builtin.append_ #[t,tu] o.type #[.slice (some ⟨b,0,none⟩) z1.length cp,.string ⟨str.toArray⟩]).run P w= .ok (.slice (some ⟨b,0,none⟩) (z1.length+ys.length) cp) (w.setRow b (vs.toList.take (z1.length * ei.size)++Qm u ys.length ei.size++vs.toList.drop (z1.length * ei.size+(Qm u ys.length ei.size).length)).toArray):=by rw[z8,Qn,zb,wY,wY]
      have y5:(vs.toList.take (z1.length * ei.size)++Qm u ys.length ei.size++vs.toList.drop (z1.length * ei.size+(Qm u ys.length ei.size).length)).toArray=spl vs (z1.length * ei.size) (Qm u ys.length ei.size).toArray:=by simp[spl]
      rw[y5]at z8;have ye:z1.length * ei.size+(Qm u ys.length ei.size).toArray.size<=vs.size:=by simpa using zo
      have zh:=Tm vs (z1.length * ei.size) (Qm u ys.length ei.size).toArray ye;obtain⟨g1,g2⟩:=zi.adopt (o':= .arr e' ei.size (z1++ys)) zw rfl hb (Ee w b (spl vs (z1.length * ei.size) (Qm u ys.length ei.size).toArray)) (Ri hh zh)
       (λm' hf=> .inr ⟨b,cp,_,rfl,setRow_heap w b vs _ e' _ hh,by simpa using hroom,q2,by rw[zh,q3],λz zg=>by
         rcases xu.1 zg with h1|h1
         ·exact q4 z h1
         ·exact zm z h1,λi z hi j y hy=>by
         rw[Oz _ _ _ _ ye];by_cases hix:i<z1.length
         ·rw[zK hix]at hi;have hj:j<ei.size:=by have:=(zD.1 hy).1;rw[q4 z (zE hi)]at this;exact this
          have:=xrel i z hi j hj;rw[if_neg (by omega)];obtain⟨v,p1,p2⟩:=hr i z hi j y hy;exact⟨v,p1,p2.mono hf.ext⟩
         rw[zF (by omega)]at hi;obtain⟨p1,p2⟩:=yrel _ z hi j y hy;have p3:=(zD.1 p1).1;have p4:i * ei.size=z1.length * ei.size+(i - z1.length) * ei.size:=by rw[<-yA];congr 1;omega
         rw[if_pos (by simp only[yG];omega)];exact⟨_,by rw[show i * ei.size+j - z1.length * ei.size=(i - z1.length) * ei.size+j by omega];simpa using p1,p2.mono hf.ext⟩⟩)
      refine fin _ _ _ (by rw[zj,zp];exact z8) g1 g2 (yd _ ?_ hroom);simp[World.shape?,setRow_heap w b vs _ e' _ hh,zh,q3]
     have holds:∀(j:Nat) (v:Value),(vs.toList.take (z1.length * ei.size))[j]?=some v->w.cell? ((⟨b,0,none⟩:Addr).add j)=some v:=λj v hj=>by
      rw[Addr.add_lit,yW,cell_of_row w b j vs e' (0,0) hh];rw[yJ]at hj;split at hj
      ·simpa using hj
      cases hj
     have z8:=Lib.run_append_grow_string (P:=P) (w:=w) t tu o.type e' ti ei.zero zl zc zr tz ⟨b,0,none⟩ z1.length cp (vs.toList.take (z1.length * ei.size)) (by rw[ts];simp;omega) holds ⟨str.toArray⟩ (by rw[zd];omega) (by rw[zd];omega) (by rw[zd];exact growslice_fits (by omega) (by rw[tb];exact hbound));rw[zy,zd]at z8;obtain⟨c1,c2⟩:=capw cp;refine newrow _ _ c1 c2 ?_ ?_ (by rw[zj,zp];exact z8) zf
     ·have:(vs.toList.take (z1.length * ei.size)).length=z1.length * ei.size:=by simp;omega
      simp only[xq,yG,Qn,size_zeroCells,hz,this,<-yA]
      congr 1;omega
     intro i z hi;have y6:(vs.toList.take (z1.length * ei.size)).length=z1.length * ei.size:=by simp;omega
     by_cases hix:i<z1.length
     ·rw[zK hix]at hi;refine⟨q4 z (zE hi),λj y hy=>?_⟩;have hj:j<ei.size:=by have:=(zD.1 hy).1;rw[q4 z (zE hi)]at this;exact this
      have yt:=xrel i z hi j hj;obtain⟨v,p1,p2⟩:=hr i z hi j y hy;refine⟨v,?_,p2⟩;rw[yK (by simp;omega),yK (by simp;omega),wM,yJ,if_pos yt];simpa using p1
     rw[zF (by omega)]at hi;refine⟨zm z (zE hi),λj y hy=>?_⟩;obtain⟨p1,p2⟩:=yrel _ z hi j y hy;have p3:=(zD.1 p1).1;have p4:i * ei.size=z1.length * ei.size+(i - z1.length) * ei.size:=by rw[<-yA];congr 1;omega
     refine⟨_,?_,p2⟩;rw[yK (by simp only[xq,yG,y6];omega),ww (by simp only[yG,y6];omega)];simp only[yG,y6];rw[show i * ei.size+j - z1.length * ei.size=(i - z1.length) * ei.size+j by omega];simpa using p1
    ·rcases zi.obj id _ zw with⟨_,e1⟩|⟨b',_,_,zn,_⟩
     ·exact fromNone zj e1 zf
     rw[hb]at zn;cases zn
    omega
   cases hb
  cases hb
 cases hb
end
end
def AV.val:AV->Option Value
 | .bool b=>some (.bool b)
 | .int k n=>some (.int k n)
 | .str s=>some (.string ⟨s.toArray⟩)
 |_=>none
def PVR.val{w:World}{I:Nat->Prop}{v u:Value}{x:AV}(h:PVR w I v x)(hx:x.val=some u):v=u:=by cases x<;>simp[AV.val]at hx<;>subst hx<;>cases h<;>rfl
def y0m{w:World}{I:Nat->Prop}:∀(args:List AV) (us:List Value) (vs:List Value),args.map AV.val=us.map some->vs.length=args.length->
  (∀(i:Nat) (v:Value) (x:AV),vs[i]?=some v->args[i]?=some x->PVR w I v x)->vs=us
 |[],[],[],_,_,_=>rfl
 |x::args,u::us,v::vs,h,hl,hv=>by simp only[z_,List.cons.injEq]at h;have h1:=(hv 0 v x rfl rfl).val h.1;have h2:=y0m args us vs h.2 (by simpa using hl) (λi v' x' a b=>hv (i+1) v' x' a b);rw[h1,h2]
 |[],_::_,_,h,_,_=>by simp at h
 |_::_,[],_,h,_,_=>by simp at h
 |[],_,_::_,_,hl,_=>by simp at hl
 |_::_,_,[],_,hl,_=>by simp at hl
def g0o {P:Program} [Env P] {f:FuncId} {args:List AV} {us:List Value} {R:AV->Prop} (hc:Te P f) (hu:args.map AV.val=us.map some)
  (h:∀(w:World) (I:Nat->Prop),EOK P w I->Calls P f us.toArray w λe w'=>(∃(v:Value) (r:AV),R r/\e= .returned v/\PVR w' I v r)/\Below w.heap.size w w'):PC P f args R:=
 ⟨hc,λw I vals hE hI hl hv=>by
  have:vals=us.toArray:=by
   rcases vals with⟨vs⟩
   rw[y0m args us vs hu (by simpa using hl) (λi v x a b=>hv i v x (by simpa using a) b)]
  subst this;refine(h w I hE).mono ?_;rintro e w' ⟨⟨v,r,h1,h2,h3⟩,hb⟩;exact⟨v,I,r,h1,h2,hb,λ_ h=>h,λb z1=>⟨yZ (hI b z1) hb.size,.inl z1⟩,h3⟩⟩
section
section
variable {P:Program} [Env P] {T:TT} {nt k:Nat} {Q:Exit->AS->Prop} {S:AS} {ops:Array Oper} {o:Oper} {R:AS->Prop}
def Xq {wr:Bool} (hw:Q9 ops S o=some true) (hd:Ek nt o=true) {r:AV}
  (h:∀(W0:World) (I0:Nat->Prop) (w:World) (I:Nat->Prop) (m:Nat->Option Nat) (a:Act),WS W0 I0 w I m S.hp->E5 nt S.sl a w I m S.hp.length->
   ∃v,(execOp a.eval o).run P w= .ok (.value v) w/\VR w I m S.hp.length v r) (hR:R (S.putD o.dst r)):Wu P nt k wr ops o S R:=λC a w K Q z8 hK=>by
 unfold OpW;rw[if_pos (z8.wanted hw)];obtain⟨I,m,za,zb,hk,hE⟩:=z8;obtain⟨v,z1,hv⟩:=h _ _ w I m a za zb;unfold wpA;rw[z1];exact hK _ _ w hR (St.value zb hk hE za (Fut.refl _ _ _ _) (zR _) (Qs hd) hv) (λ_=>Tz.refl w)
def Nk (hT:TOk P T) {wr:Bool} (hw:Q9 ops S o=some true) (hd:Ek nt o=true) {t u:TypeId} {x:Operand} {b:Bool} (ho:o.op= .binOp (if b then .eql else .neq) t x (.const .nilIface) u)
  {it:TI} {ms:Array (String×TypeId)} (ht:look T t=some it) (z1:it.desc= .interface ms) (hx:rho S.sl x=some .nili) (hR:R (S.putD o.dst (.bool b))):Wu P nt k wr ops o S R:=
 Xq hw hd (λW0 I0 w I m a za z8=>by
  have h1:=(Qu z8 hx).nili_inv;have hu:=hT.und ht;rw[z1]at hu;have hE:∀d:Nat,(Op.equalIn (d+1) t .nilIface .nilIface).run P w= .ok true w:=λd=>by simp[Op.equalIn,run_underlying hu]
  refine⟨.bool b,?_,.pure (.bool _)⟩;have h2:a.eval (.const .nilIface)= .nilIface:=rfl;have hG:∀op,(eqGuard op t x (.const .nilIface) .nilIface .nilIface).run P w= .ok () w:=λop=>by cases op<;>simp[eqGuard]
  cases b<;>simp[execOp,ho,h1,h2,hG,binOp,Op.equal,Op.maxDepth,hE 9999]) hR
def A5 (hT:TOk P T) {wr:Bool} (hw:Q9 ops S o=some true) (hd:Ek nt o=true) {t u:TypeId} {x:Operand} {b:Bool} (ho:o.op= .binOp (if b then .neq else .eql) t x (.const .nilIface) u)
  {it:TI} {ms:Array (String×TypeId)} (ht:look T t=some it) (z1:it.desc= .interface ms) (hx:rho S.sl x=some .ifc) (hR:R (S.putD o.dst (.bool b))):Wu P nt k wr ops o S R:=
 Xq hw hd (λW0 I0 w I m a za z8=>by
  obtain⟨tu,uu,h1⟩:=(Qu z8 hx).ifc_inv;have hu:=hT.und ht;rw[z1]at hu;have hE:∀d:Nat,(Op.equalIn (d+1) t (.iface tu uu) .nilIface).run P w= .ok false w:=λd=>by simp[Op.equalIn,run_underlying hu]
  refine⟨.bool b,?_,.pure (.bool _)⟩;have h2:a.eval (.const .nilIface)= .nilIface:=rfl;have hG:∀op,(eqGuard op t x (.const .nilIface) (.iface tu uu) .nilIface).run P w= .ok () w:=λop=>by cases op<;>simp[eqGuard]
  cases b<;>simp[execOp,ho,h1,h2,hG,binOp,Op.equal,Op.maxDepth,hE 9999]) hR
def Sp (hT:TOk P T) (hw:Q9 ops S o=some true) {s x:Operand} {t tu e:TypeId} (ho:o.op= .call ⟨.builtin .append,#[s,x],#[t,tu]⟩) {it iu ei:TI} (z8:look T tu=some iu) (za:iu.desc= .string) (z1:ei.size=1) (ht:look T t=some it) (zb:it.desc= .slice e) (he:look T e=some ei)
  (hz:ei.zero.cells.size=ei.size) (zc:0<ei.size) {sv:AV} (hs:rho S.sl s=some sv) {str:List UInt8} (hx:rho S.sl x=some (.str str)) (hd:Ek nt o=true)
  (hR:match R8 S e ei.size sv with
   |some (xs,H1)=>((xs.length+str.length) * ei.bytes<=140737488355328/\xs.length+str.length<=9223372036854775807)/\R (({ S with hp:=H1++[.arr e ei.size (xs++str.map byteAV)] }:AS).putD o.dst (.sl S.hp.length ei.size 0 (xs.length+str.length)))
   |none=>False):Wu P nt k true ops o S R:=by
 cases hb:R8 S e ei.size sv with
 |none=>rw[hb]at hR;exact hR.elim
 |some p=>obtain⟨xs,H1⟩:=p;rw[hb]at hR;exact D4 hT hw ho z8 za z1 ht zb he hz zc hs hx hb hR.1.1 hR.1.2 hd hR.2
end
end
section
section
variable {W0 w:World} {I0 I:Nat->Prop} {m:Nat->Option Nat} {H:List AObj}
def WS.addI(h:WS W0 I0 w I m H){l:Nat}(h1:l<w.heap.size)(h2:W0.heap.size<=l)(h3:∀(id:Nat) (o:AObj),H[id]?=some o->o.live=true->m id≠some l):WS W0 I0 w (λb=>I b\/b=l) m H:=by
 have hf:Fut H.length w I m w (λb=>I b\/b=l) m:=⟨⟨λ_ h=> .inl h,λ_ _=>rfl⟩,λ_ _=>rfl,λ_ _ h=>h⟩
 refine⟨h.below,λb hb=> .inl (h.i0 b hb),λb hb=>?_,λid o ho=>(h.obj id o ho).mono hf (zR _) (λ_ _ _=>rfl),λid o b ho hl hm=>?_,h.inj⟩
 ·rcases hb with hb|rfl
  ·exact h.iw b hb
  exact⟨h1,.inr h2⟩
 have:=h.own id o b ho hl hm;refine⟨this.1,λhc=>?_,this.2.2⟩;rcases hc with hc|rfl
 ·exact this.2.1 hc
 exact h3 id o ho hl hm
def WS.revive (h:WS W0 I0 w I m H) {q l:Nat} {o':AObj} (ho:H[q]?=some .dead) (hm:m q=some l) (h1:l<w.heap.size) (h2:W0.heap.size<=l) (hI:¬I l) (h3:∀(id:Nat) (o:AObj),H[id]?=some o->o.live=true->m id≠some l)
  (hO:Uq w I m H.length (some l) o'):WS W0 I0 w I m (H.set q o'):=by
 have hq:q<H.length:=(zD.1 ho).1;have z1:∀(k:Nat) (p:AObj),(H.set q o')[k]?=some p->(k≠q/\H[k]?=some p)\/(k=q/\p=o'):=λk p hp=>by
  by_cases hk:k=q
  ·subst hk;rw[zJ hq]at hp;exact .inr ⟨rfl,(Option.some.inj hp).symm⟩
  rw[zI (by omega)]at hp;exact .inl ⟨hk,hp⟩
 refine⟨h.below,h.i0,h.iw,λk p hp=>?_,λk p c hp lp mc=>?_,λi j oi oj c hi hj li lj mi mj=>?_⟩
 ·rw[wj];rcases z1 k p hp with⟨_,h5⟩|⟨rfl,rfl⟩
  ·exact h.obj k p h5
  rw[hm];exact hO
 ·rcases z1 k p hp with⟨_,h5⟩|⟨rfl,rfl⟩
  ·exact h.own k p c h5 lp mc
  rw[hm]at mc;cases mc;exact⟨h2,hI,h1⟩
 rcases z1 i oi hi with⟨a1,a2⟩|⟨rfl,rfl⟩
 ·rcases z1 j oj hj with⟨b1,b2⟩|⟨rfl,rfl⟩
  ·exact h.inj i j oi oj c a2 b2 li lj mi mj
  rw[hm]at mj;cases mj;exact absurd mi (h3 i oi a2 li)
 rcases z1 j oj hj with⟨b1,b2⟩|⟨rfl,rfl⟩
 ·rw[hm]at mi;cases mi;exact absurd mj (h3 j oj b2 lj)
 rfl
end
def Ry:List (Nat×AV)->List Tmp->List AV->List (Nat×AV)
 |sl,p::ps,x::xs=>Ry (put sl p x) ps xs
 |sl,_,_=>sl
def Aa{w:World}{I:Nat->Prop}{m:Nat->Option Nat}{n nt:Nat}:∀(ps:List Tmp) (xs:List AV) (vs:List Value) (sl:List (Nat×AV)) (tm:Array Value),ps.length=xs.length->vs.length=xs.length->(ps.all λp=>decide (p<nt))=true->
  (∀(i:Nat) (v:Value) (x:AV),vs[i]?=some v->xs[i]?=some x->VR w I m n v x)->tm.size=nt->(∀(t:Nat) (x:AV),look sl t=some x->∃v,tm[t]?=some v/\VR w I m n v x)->
  ((ps.zip vs).foldl (λ(tm:Array Value) (p:Tmp×Value)=>tm.setIfInBounds p.1 p.2) tm).size=nt/\∀(t:Nat) (x:AV),look (Ry sl ps xs) t=some x->∃v,((ps.zip vs).foldl (λ(tm:Array Value) (p:Tmp×Value)=>tm.setIfInBounds p.1 p.2) tm)[t]?=some v/\VR w I m n v x
 |[],_,_,sl,tm,_,_,_,_,h1,h2=>⟨h1,h2⟩
 |p::ps,[],_,_,_,hl,_,_,_,_,_=>by cases hl
 |p::ps,x::xs,[],_,_,_,hl,_,_,_,_=>by cases hl
 |p::ps,x::xs,v::vs,sl,tm,z1,z8,hp,hv,h1,h2=>by
  simp only[wg,zX,decide_eq_true_eq]at hp;simp only[List.zip_cons_cons,List.foldl_cons,Ry];refine Aa ps xs vs (put sl p x) _ (by simpa using z1) (by simpa using z8) hp.2 (λi v x a b=>hv (i+1) v x a b) (by simpa using h1) (λt y hy=>?_);rw[Ps]at hy;by_cases ht:t=p
  ·subst ht;rw[if_pos rfl]at hy;cases hy;exact⟨v,by simp[h1,hp.1],hv 0 v _ rfl rfl⟩
  rw[if_neg ht]at hy;obtain⟨u,hu,hr⟩:=h2 t y hy;exact⟨u,by rw[Array.getElem?_setIfInBounds_ne (Ne.symm ht)];exact hu,hr⟩
section
variable {P:Program} [Env P] {T:TT} {nt k:Nat} {S:AS} {ops:Array Oper} {o:Oper} {R:AS->Prop}
def Gy(q:Nat)(Rr:Option Code->List AObj->Prop):Exit->AS->Prop
 | .normal,S=>S.hp[q]?=some .dead/\Rr none S.hp
 | .ret,S=>S.hp[q]?=some .dead/\Rr (some .ret) S.hp
 | .exit id,S=>S.hp[q]?=some .dead/\Rr (some (.exit id)) S.hp
 |_,_=>False
def Jc{a:Act}{w:World}{cf:Operand}{args:Array Operand}{ts:Array TypeId}(ho:o.op= .call ⟨.value cf,args,ts⟩){l:Nat}(hf:a.eval cf= .func (.yield l) #[] #[]){r:Loop}(hr:w.heap[l]?=some (.loop r))(hs:args.size=r.params.size):
  (execOp a.eval o).run P w= .ok (.round l r.fn ((r.params.zip (args.map a.eval)).foldl (λtmps (t,a)=>tmps.setIfInBounds t a) r.tmps) r.assign r.body) w:=by
 have:=run_yield (P:=P) (args:=args.map a.eval) hr (by simpa using hs);simp only[execOp,ho,resolve,hf,Deferred.ofValue,invoke];simp[this]
def Eu {cf:Operand} {args:Array Operand} {ts:Array TypeId} (hw:Q9 ops S o=some true) (ho:o.op= .call ⟨.value cf,args,ts⟩) {q:Nat} (zy:rho S.sl cf=some (.yld q)) {xs:List AV} (zz:Qy (args.toList.map (rho S.sl))=some xs)
  {ze:Nat} {sl':List (Nat×AV)} {ps:List Tmp} {asg body:Code} (zn:S.hp[q]?=some (.lp true none ze sl' ps asg body)) (hlen:ps.length=xs.length) (y0:(ps.all λp=>decide (p<ze))=true) (hd:Ek nt o=true)
  (Rr:Option Code->List AObj->Prop)
  (zb:AWP P ze S.hp.length asg (O7 (AWP P ze S.hp.length body (Gy q Rr)) (λ_ _=>False)) ⟨Ry sl' ps xs,S.hp.set q .dead⟩)
  (hR:∀(jump:Option Code) (H':List AObj),Rr jump H'->R (({ S with hp:=H'.set q (.lp jump.isNone jump ze sl' ps asg body) }:AS).putD o.dst (.bool jump.isNone))):Wu P nt k true ops o S R:=λC a w K Q zt hK=>by
 unfold OpW;rw[if_pos (zt.wanted hw)];obtain⟨I,m,zi,zo,hk,hE⟩:=zt;obtain⟨l,zj,hq,y5⟩:=(Qu zo zy).yld_inv;obtain⟨e5,e6⟩:=Jh (g:=true) rfl zo zz;obtain⟨b,r,hb,hh,q1,q2,q3,q4,q5,q6,q7⟩:=zi.obj q _ zn;obtain rfl:l=b:=by rw[zj]at hb;exact Option.some.inj hb
 obtain⟨o1,o2,o3⟩:=zi.own q _ l zn rfl zj;have y6:args.size=r.params.size:=by rw[q3];simp at e5 |-;omega
 unfold wpA;rw[Jc ho y5 hh y6];simp only[j03];have zf:(r.params.zip (args.map a.eval)).foldl (λtmps (t,a)=>tmps.setIfInBounds t a) r.tmps=(ps.zip (args.map a.eval).toList).foldl (λ(tm:Array Value) (p:Tmp×Value)=>tm.setIfInBounds p.1 p.2) r.tmps:=by rw[q3,<-Array.foldl_toList,Array.toList_zip]
 rw[zf];obtain⟨s1,s2⟩:=Aa (w:=w) (I:=I) (m:=m) (n:=S.hp.length) ps xs (args.map a.eval).toList sl' r.tmps hlen (by simpa using e5) y0 (λi v x hv hx=>e6 i v x (by simpa using hv) hx) q6 q7;generalize yf:(ps.zip (args.map a.eval).toList).foldl (λ(tm:Array Value) (p:Tmp×Value)=>tm.setIfInBounds p.1 p.2) r.tmps=TM at *
 refine roundIn_of_wpIn trivial ?_;obtain⟨f1,f2⟩:=zi.freeze zn rfl zj;rw[q4,q5];have zp:∀b,I b->b≠l:=λb hb e=>o2 (e▸hb);refine wpIn_mono (zb ⟨C.W0,C.I0,w,λc=>I c\/c=l,m,C.hE,some l⟩ { tmps:=TM,defers:=[] } w ⟨_,m,f1,⟨s1,trivial,λt x hx=>by
  obtain⟨v,hv,hr⟩:=s2 t x hx;exact⟨v,hv,by simpa using hr.mono f2 (zR _)⟩⟩,by simp,⟨.refl _ _ _ _,(λh=>(by cases h)),λl' hl'=>by cases hl';exact⟨.inr rfl,r,hh⟩⟩⟩) ?_
 rintro e a2 w2 ⟨S2,hQ,I2,m2,g1,g2,g3,g4⟩;cases e with
 |normal=>
  have z8:I2 l:=g4.fut.ext.sub l (.inr rfl);have zk:w2.heap[l]?=some (.loop r):=(g4.fut.ext.imm l (.inr rfl)).trans hh;have zu:l<w2.heap.size:=(xl.1 zk).1;refine⟨w2.putObj l (.loop { r with state:= .busy }),run_beginRound zk (by rw[q1];rfl),?_⟩;have zl:Shut w2 (w2.putObj l (.loop { r with state:= .busy })) I2 (·=l):=⟨World.putObj_size,λb hb=>World.putObj_heap_other hb,λb o hb ho=>by subst hb;rw[zk]at ho;cases ho;rfl,λb es ck hb hm=>by subst hb;rw[zk]at hm;cases hm⟩
  have y7:Below C.W0.heap.size w2 (w2.putObj l (.loop { r with state:= .busy })):=⟨rfl,rfl,rfl,by simp,λb hb=>World.putObj_heap_other (by omega)⟩
  have zg:∀b,b=l->¬C.I0 b:=λb hb h=>by subst hb;exact o2 (zi.i0 _ h)
  have y8:=g1.shut zl y7 zg (λb hb=>by subst hb;exact z8);have y9:∀(id:Nat) (o:AObj),S2.hp[id]?=some o->o.live=true->m2 id≠some l:=λid o ho hl hm=>(g1.own id o l ho hl hm).2.1 z8;have g1'':=y8.addI (l:=l) (by simpa using zu) o1 y9;have zq:(λb=>(I2 b/\¬b=l)\/b=l)=I2:=by
   funext b;apply propext;by_cases hb:b=l
   ·subst hb;simp[z8]
   simp[hb]
  rw[zq]at g1'';have ya:Fut S2.hp.length (w2.putObj l (.loop { r with state:= .busy })) (λb=>I2 b/\¬b=l) m2 (w2.putObj l (.loop { r with state:= .busy })) I2 m2:=⟨⟨λ_ h=>h.1,λ_ _=>rfl⟩,λ_ _=>rfl,λ_ _ h=>h⟩
  have zv:=g2.shut zl;have zw:(w2.putObj l (.loop { r with state:= .busy })).heap[l]?=some (.loop { r with state:= .busy }):=World.putObj_heap_same zu;refine wpIn_mono (hQ ⟨C.W0,C.I0,w2.putObj l (.loop { r with state:= .busy }),I2,m2,C.hE,some l⟩ a2 _ ⟨I2,m2,g1'',⟨zv.1,trivial,λt x hx=>by
   obtain⟨v,hv,hr⟩:=zv.2.2 t x hx;exact⟨v,hv,hr.mono ya (zR _)⟩⟩,g3,⟨.refl _ _ _ _,(λh=>(by cases h)),λl' hl'=>by cases hl';exact⟨z8,_,zw⟩⟩⟩) ?_
  rintro e4 a4 w4 ⟨S4,za,I4,m4,k1,k2,k3,k4⟩;have zh:I4 l:=k4.fut.ext.sub l z8;have zm:w4.heap[l]?=some (.loop { r with state:= .busy }):=(k4.fut.ext.imm l z8).trans zw;have zx:l<w4.heap.size:=(xl.1 zm).1;have key:∀jump:Option Code,S4.hp[q]?=some .dead->Rr jump S4.hp->∃v w',(Instr.endRound l jump).run P w4= .ok v w'/\K (a.put o.dst v) w':=λjump yb yc=>by
   refine⟨_,_,run_endRound jump zm,?_⟩;generalize z1:({ ({ r with state:= .busy }:Loop)with state:=if jump.isNone=true then LoopState.ready else LoopState.done,pending:=jump }:Loop)=r5;have zc:Shut w4 (w4.putObj l (.loop r5)) I4 (·=l):=⟨World.putObj_size,λb hb=>World.putObj_heap_other hb,λb o hb ho=>by subst hb;rw[zm]at ho;cases ho;rfl,λb es ck hb hm=>by subst hb;rw[zm]at hm;cases hm⟩
   have zr:Below C.W0.heap.size w4 (w4.putObj l (.loop r5)):=⟨rfl,rfl,rfl,by simp,λb hb=>World.putObj_heap_other (by omega)⟩
   have yd:=k1.shut zc zr zg (λb hb=>by subst hb;exact zh);have zd:Fut S.hp.length w I m (w4.putObj l (.loop r5)) (λb=>I4 b/\¬b=l) m4:=by
    refine⟨⟨λb hb=>⟨k4.fut.ext.sub b (g4.fut.ext.sub b (.inl hb)),zp b hb⟩,λb hb=>?_⟩,λid hid=>?_,λb s hs=>?_⟩
    ·rw[zc.same b (zp b hb),k4.fut.ext.imm b (g4.fut.ext.sub b (.inl hb)),zl.same b (zp b hb),g4.fut.ext.imm b (.inl hb)]
    ·exact(k4.fut.ids id hid).trans (g4.fut.ids id hid)
    exact(zc.fut (m:=m) 0).shape _ _ (k4.fut.shape _ _ ((zl.fut (m:=m) 0).shape _ _ (g4.fut.shape _ _ hs)))
   have ye:m4 q=some l:=(zd.ids q hq).trans zj;have k1'':=yd.revive (o':= .lp jump.isNone jump ze sl' ps asg body) yb ye (by simpa using zx) o1 (λh=>h.2 rfl) (λid o ho hl hm=>(k1.own id o l ho hl hm).2.1 zh)
    ⟨l,r5,rfl,World.putObj_heap_same zx,by rw[<-z1],by rw[<-z1],by rw[<-z1];exact q3,by rw[<-z1];exact q4,by rw[<-z1];exact q5,by rw[<-z1];exact q6,λt x hx=>by
     obtain⟨v,hv,hr⟩:=q7 t x hx;exact⟨v,by rw[<-z1];exact hv,hr.mono zd k3⟩⟩
   exact hK _ _ _ (hR jump S4.hp yc) (St.value zo hk hE k1'' zd (by simpa using k3) (Qs hd) (.pure (.bool _))) (λh=>by cases h)
  cases e4 with
  |normal=>exact key none za.1 za.2
  |ret=>exact key (some .ret) za.1 za.2
  |exit id=>exact key (some (.exit id)) za.1 za.2
  |goto l=>exact za.elim
  |panic c=>exact za.elim
  |outgrown=>exact za.elim
 |exit id=>exact hQ.elim
 |goto l=>exact hQ.elim
 |ret=>exact hQ.elim
 |panic c=>exact hQ.elim
 |outgrown=>exact hQ.elim
def J3{P:Program}{a:Act}{w:World}{g:Operand}{l:Nat}{f:FuncId}{us:Array Value}(hg:a.eval g= .func (.func f) #[] us)(hc:Te P f):
  ∃d:Deferred,(resolve a.eval (rangeCall g l) 0).run P w= .ok d w/\(invoke d.target d.args).run P w= .ok (.enter f (#[.func (.yield l) #[] #[]]++us)) w:=by
 obtain⟨fn,h1,h2,h3⟩:=hc;have z1:¬fn.name= "runtime.NumGoroutine" :=by simpa using h3
 refine⟨_,by simp only[resolve,hg];rfl,?_⟩;simp[Deferred.ofValue,invoke,callFunc,h1,z1,Act.eval];exact λhb=>absurd h2 (by simp[hb])
def Mv{C:Cx P}{a:Act}{w:World}{I:Nat->Prop}{m:Nat->Option Nat}{fnum:FuncId}{ps:List Tmp}{asg body:Code}(hE:FutC C k a w I m):∃(l:Nat) (mark:List Nat) (w1:World) (r:Loop),(Instr.enterLoop fnum a.tmps ps.toArray asg body C.ro).run P w= .ok (l,mark.map Xo) w1/\Below w.heap.size w w1/\w.heap.size<=l/\l<w1.heap.size/\w1.heap[l]?=some (.loop r)/\
   r.state= .ready/\r.pending=none/\r.params=ps.toArray/\r.assign=asg/\r.body=body/\r.tmps=a.tmps/\mark.Nodup/\∀D∈mark,w.heap.size<=D/\D<w1.heap.size/\D≠l/\w1.heap[D]?=some (.deferred (some [])):=by
 cases hro:C.ro with
 |none=>
  refine⟨_,[w.heap.size],_,({ state:= .ready,pending:=none,fn:=fnum,tmps:=a.tmps,params:=ps.toArray,assign:=asg,body:=body,defers:=w.heap.size }:Loop),run_enterLoop_outer _ _ _ _ _,⟨rfl,rfl,rfl,by simp;omega,λb hb=>?_⟩,by omega,by simp,?_,rfl,rfl,rfl,rfl,rfl,rfl,by simp,λD hD=>?_⟩
  ·simp only[World.alloc,wZ];rw[if_neg (by simp;omega),if_neg (by omega)]
  ·have:=World.alloc_heap_new (w.alloc (.deferred (some []))) (.loop { state:= .ready,pending:=none,fn:=fnum,tmps:=a.tmps,params:=ps.toArray,assign:=asg,body:=body,defers:=w.heap.size });rw[World.size_alloc]at this;exact this
  obtain rfl:=xd.1 hD;refine⟨zR _,by simp;omega,by omega,?_⟩;simp only[World.alloc,wZ];simp
 |some l0=>obtain⟨_,r0,h0⟩:=hE.rnd l0 hro;refine⟨_,[],_,({ state:= .ready,pending:=none,fn:=fnum,tmps:=a.tmps,params:=ps.toArray,assign:=asg,body:=body,defers:=r0.defers }:Loop),run_enterLoop_inner h0 _ _ _ _ _,⟨rfl,rfl,rfl,by simp,λb hb=>?_⟩,zR _,by simp,World.alloc_heap_new _ _,rfl,rfl,rfl,rfl,rfl,rfl,by simp,λD hD=>by cases hD⟩;simp only[World.alloc,wZ];rw[if_neg (by omega)]
def w05 {C:Cx P} {a:Act} {w w1 w3:World} {I I':Nat->Prop} {m m':Nat->Option Nat} {l:Nat} {mark:List Nat} {H':List AObj} {rdy:Bool} {pend:Option Code} {zg:Nat} {sl':List (Nat×AV)} {zh:List Tmp} {asg' body':Code}
  (z8:WS C.W0 C.I0 w I m S.hp) (zb:E5 nt S.sl a w I m S.hp.length) (hk:k<=S.hp.length) (hE:FutC C k a w I m) (zl:Below w.heap.size w w1) (zm:w.heap.size<=l) (zi:mark.Nodup)
  (z1:∀D∈mark,w.heap.size<=D/\D<w1.heap.size/\D≠l/\w1.heap[D]?=some (.deferred (some []))) (g2:Fut S.hp.length w I m w1 (λb=>I b\/b∈mark) (upd m S.hp.length (some l)))
  (k1:WS C.W0 C.I0 w3 I' m' H') (k2:S.hp.length+1<=H'.length) (k3:Fut (S.hp.length+1) w1 (λb=>I b\/b∈mark) (upd m S.hp.length (some l)) w3 I' m') (zc:H'[S.hp.length]?=some (.lp rdy pend zg sl' zh asg' body')):
  ∃r3:Loop,w3.heap[l]?=some (.loop r3)/\r3.state≠ .busy/\r3.pending=pend/\St C nt k ⟨S.sl,H'.set S.hp.length .dead⟩ { a with defers:=mark.map Xo++a.defers } (w3.putObj l (.loop { r3 with state:= .exhausted })):=by
 obtain⟨b,r3,zd,za,p1,p2,p3,p4,p5,p6,p7⟩:=k1.obj _ _ zc;have ze:m' S.hp.length=some l:=(k3.ids _ (by omega)).trans (Q6 _ _ _);have zj:b=l:=by rw[ze]at zd;exact(Option.some.inj zd).symm
 rw[zj]at za;refine⟨r3,za,by rw[p1];cases rdy<;>simp,p2,?_⟩;generalize hO:Obj.loop { r3 with state:= .exhausted }=O;obtain⟨n1,n2⟩:=k1.set (w':=w3.putObj l O) (o':= .dead) zc rfl ze (grownBy_putObj' _ _ _) (λs hs=>by
  unfold World.shape? at hs;rw[za]at hs;cases hs) (λ_ _=>trivial)
 have hF:Fut S.hp.length w I m (w3.putObj l O) I' m':=(g2.trans (vF _) k3).trans (Nat.le_of_succ_le k2) n2;refine⟨I',m',n1,⟨zb.1,trivial,λt x hx=>?_⟩,by simp;omega,⟨hE.fut.trans hk hF,λzk=>?_,λl' hl'=>?_⟩⟩
 ·obtain⟨v,hv,hr⟩:=zb.2.2 t x hx;exact⟨v,hv,hr.mono hF (by simp;omega)⟩
 ·obtain⟨ds,d1,d2,d3⟩:=hE.defs zk;refine⟨mark++ds,by simp[d1],List.nodup_append.2 ⟨zi,d2,λx hx y hy e=>?_⟩,λD hD=>?_⟩
  ·subst e;have h1:=(z8.iw x (d3 x hy).1).1;have h2:=(z1 x hx).1;omega
  rcases xu.1 hD with hD|hD
  ·have zf:(λb=>I b\/b∈mark) D:= .inr hD;refine⟨k3.ext.sub D zf,⟨λhc=>?_,yD z8.below.size (z1 D hD).1⟩,?_⟩
   ·have h1:=(z8.iw D (hE.fut.ext.sub D hc)).1;have h2:=(z1 D hD).1;omega
   rw[World.putObj_heap_other (z1 D hD).2.2.1,k3.ext.imm D zf];exact(z1 D hD).2.2.2
  have:=d3 D hD;exact⟨hF.ext.sub D this.1,this.2.1,by rw[hF.ext.imm D this.1];exact this.2.2⟩
 obtain⟨h1,r',h2⟩:=hE.rnd l' hl';exact⟨hF.ext.sub l' h1,r',by rw[hF.ext.imm l' h1];exact h2⟩
set_option maxHeartbeats 2000000 in
def Ez {Q:Exit->AS->Prop} {g:Operand} {ps:List Tmp} {asg body:Code} {f:FuncId} {cs:List AV} (hg:rho S.sl g=some (.fn (.func f) [] cs)) {Rf:AV->List AObj->Prop}
  (hc:FC P f (.yld S.hp.length::cs) (S.hp++[.lp true none nt S.sl ps asg body]) Rf)
  (hR:∀(r:AV) (H':List AObj),Rf r H'->∃(rdy:Bool) (pend:Option Code) (zi:Nat) (sl':List (Nat×AV)) (zj:List Tmp) (z8 body':Code),H'[S.hp.length]?=some (.lp rdy pend zi sl' zj z8 body')/\
   (match pend with
   |none=>Q .normal ⟨S.sl,H'.set S.hp.length .dead⟩
   |some c=>AWP P nt k c Q ⟨S.sl,H'.set S.hp.length .dead⟩)):AWP P nt k (.rangeFunc g ps.toArray asg body) Q S:=λC a w zl=>by
 obtain⟨I,m,zb,zc,hk,hE⟩:=zl;obtain⟨vs,us,zm,e1,e2,e3,e4⟩:=(Qu zc hg).fn_inv;have zn:vs= #[]:=Array.eq_empty_of_size_eq_zero (by simpa using e1);subst zn;refine wpIn_rangeFunc (F:=FW C.ro) λfnum _=>?_
 -- what entering the loop lays
 have ze:=Mv (C:=C) (fnum:=fnum) (ps:=ps) (asg:=asg) (body:=body) hE;obtain⟨l,mark,w1,r,zf,zg,zk,zo,zp,q1,q2,q3,q4,q5,q6,zq,zd⟩:=ze;have g0:=zb.push' (I':=λb=>I b\/b∈mark) zg (λ_ h=> .inl h) (λb hb=>by
  rcases hb with hb|hb
  ·exact⟨yZ (zb.iw b hb).1 zg.size,.inl hb⟩
  exact⟨(zd b hb).2.1,.inr (zd b hb).1⟩) (some l) (λb hb=>by
  cases hb;exact⟨zk,zo,λhc=>by
   rcases hc with hc|hc
   ·have:=(zb.iw l hc).1;omega
   ·exact(zd l hc).2.2.1 rfl⟩) (.lp true none nt S.sl ps asg body) (λm' zr zz=>⟨l,r,rfl,zp,by rw[q1];rfl,q2,q3,q4,q5,by rw[q6];exact zc.1,λt x hx=>by
   obtain⟨v,hv,hr⟩:=zc.2.2 t x hx;exact⟨v,by rw[q6];exact hv,hr.mono zr (vF _)⟩⟩)
 obtain⟨g1,g2⟩:=g0;obtain⟨d,zt,zu⟩:=J3 (w:=w1) (l:=l) zm hc.1;refine⟨l,mark.map Xo,w1,d,w1,f,_,w1,zf,zt,λ_ _=>trivial,zu,(λh=>(by cases h)),Hl ?_⟩;have hlen:(S.hp++[AObj.lp true none nt S.sl ps asg body]).length=S.hp.length+1:=by simp
 refine(hc.2 C.W0 C.I0 w1 _ _ (#[.func (.yield l) #[] #[]]++us) C.hE g1 (by simp at e3 |-;omega) (λi v x hv hx=>?_)).mono ?_
 ·rcases i with _|i
  ·rw[yK (by simp)]at hv;simp at hv hx;subst hv;subst hx;exact .yld _ _ (by simp) (Q6 _ _ _)
  rw[ww (by simp)]at hv;simp at hv hx;exact(e4 i v x hv hx).mono g2 (by simp)
 rintro e w3 ⟨v,rv,H',I',m',zv,rfl,k1,k2,k3,k4⟩;rw[hlen]at k2 k3;obtain⟨rdy,pend,zi,sl',zj,z8,body',zw,z1⟩:=hR rv H' zv;obtain⟨r3,zx,zh,zy,za⟩:=w05 zb zc hk hE zg zk zq zd g2 k1 k2 k3 zw;refine⟨pend,_,(run_endLoop zx zh).trans (congrArg (λx=>Result.ok x _) zy),?_⟩;cases pend with
 |none=>exact⟨_,z1,za⟩
 |some c=>exact z1 C _ _ za
end
end
section
section
variable {P:Program} [Env P] {nt k:Nat} {Q:Exit->AS->Prop}
def W4 {c:Code} {sl:List (Nat×AV)} {H:List AObj} (t e sz:Nat) (ht:look sl t=some .nils)
  (h:AWP P nt k c Q ⟨put sl t (.sl H.length sz 0 0),H++[.arr e sz []]⟩):AWP P nt k c Q ⟨sl,H⟩:=λC a w hs=>by
 obtain⟨I,m,hw,z1,hk,hf⟩:=hs;obtain⟨g1,g2⟩:=hw.push (Below.refl _ _) none (λb e=>by cases e) (.arr e sz []) (λm' _ _=> .inl ⟨rfl,rfl⟩);refine h C a w ⟨I,upd m H.length none,g1,⟨z1.1,z1.2.1,λs x hx=>?_⟩,by simp at hk |-;omega,hf.trans hk g2⟩;simp only[Ps]at hx;by_cases hst:s=t
 ·rw[if_pos hst]at hx;cases hx;obtain⟨v,hv,hr⟩:=z1.2.2 t _ ht;rw[hst];have:=hr.nils_inv;subst this;exact⟨_,hv,.slnone H.length sz (by simp) (Q6 ..)⟩
 rw[if_neg hst]at hx;obtain⟨v,hv,hr⟩:=z1.2.2 s x hx;refine⟨v,hv,?_⟩;have:=hr.mono (n':=(H++[AObj.arr e sz []]).length) g2 (by simp);simpa using this
def Eh {c:Code} {sl:List (Nat×AV)} {H:List AObj} (t:Nat) (ht:look sl t=some .nils)
  (h:AWP P nt k c Q ⟨put sl t (.list []),H⟩):AWP P nt k c Q ⟨sl,H⟩:=λC a w hs=>by
 obtain⟨I,m,hw,z1,hk,hf⟩:=hs;refine h C a w ⟨I,m,hw,⟨z1.1,z1.2.1,λs x hx=>?_⟩,hk,hf⟩;simp only[Ps]at hx;by_cases hst:s=t
 ·rw[if_pos hst]at hx;cases hx;obtain⟨v,hv,hr⟩:=z1.2.2 t _ ht;rw[hst];have:=hr.nils_inv;subst this;exact⟨_,hv,.pure (.list none 0 0 0 [] (λ_ _=> .bool false) rfl (zR _) (by simp[maxLen]) (λx hx=>by simp at hx) (λh=>by simp at h) (λi x hx=>by simp at hx))⟩
 rw[if_neg hst]at hx;exact z1.2.2 s x hx
end
end
section
section
variable {P:Program} [Env P] {T:TT} {nt k:Nat} {S:AS} {ops:Array Oper} {o:Oper} {R:AS->Prop} {Q:Exit->AS->Prop}
end
end
end Go.Abs
