/- Part Ub of the proof: steps on the way to the last part. No condition. -/
import Derived.Test.YtjmkolhkojgjpaaGreatDoorUa
import Derived.Lib.SliceRun
import Derived.Laws.CopyRow
import Derived.Lib.AppendZeros
import Derived.Lib.Overlaps
import Derived.ProofKit
import Derived.OpenShut
import Derived.Carry
import Derived.Deep.DeepHandedRow
import Derived.Lib.ConvBytes
import Derived.Laws.BytesString
import Derived.Laws.IdiomStrings
import Derived.Lib.BufferRead
import Derived.Lib.AppendStr
import Derived.Lib.Builder
import Derived.Lib.UnsafeStr
import Derived.Laws.Externs
import Derived.RangeFuncOwn
import Derived.RangeFuncNested
import Derived.Shelf.GgSortFunc.RowK
import Derived.Shelf.SlSortCmp.WholeK
import Derived.Shelf.SlSortCmp.NoneTotal
set_option linter.all false
open List renaming getElem?_eq_some_iff->zB,getElem?_append_left->zF,getElem?_set_self->zL,getElem?_set_ne->zE,getElem?_append_right->zH,length_set->wZ,getElem?_take->xR,range->yR,getElem?_range->up,getElem?_map->zU,mem_iff_getElem?->yK,getElem_mem->zK,getElem?_eq_getElem->zI,all_eq_true->zW,mem_of_getElem?->zJ,eq_nil_of_length_eq_zero->wK,size_toArray->xW,nil_append->xZ,mem_append->zV,all_cons->uw,map_cons->xA,mem_map->zO,length_map->zY,ext_getElem?->xN,replicate->yI,take_zero->wp,getElem?_cons_zero->wD,drop_eq_nil_of_le->uY,drop_drop->tU,take_append_drop->xO,range'->ue,range'_succ->uh,mem_cons->zZ,range_eq_range'->uz,append_nil->xB
open Nat renaming lt_of_lt_of_le->wd,add_mul->yO,mul_le_mul_right->yF,add_comm->sf,eq_zero_or_pos->vz,mod_lt->sk,mul_comm->td,div_add_mod->tT,le_refl->zQ,zero_add->x_,zero_mul->uP,one_mul->tV,le_trans->yL,le_succ->ug
open Option renaming getD_some->wC,map_some->wG,map_eq_some_iff->zS,bind_eq_some_iff->xE
open Array renaming size_append->wX,getElem?_append_left->y_,getElem?_append_right->u6,mem_of_getElem?->ul,replicate->u4,getElem?_eq_some_iff->yQ,getElem?_push->vI
open Bool renaming and_eq_true->zX
set_option maxRecDepth 100000
namespace Go.Abs
open Go
section
open Go.RowKit
section
variable {P:Program} [Env P] {T:TT} {nt k:Nat} {S:AS} {ops:Array Oper} {o:Oper} {R:AS->Prop}
section
variable {W0 w w':World} {I0 I:Nat->Prop} {m:Nat->Option Nat} {H:List AObj}
def WS.adopt (h:WS W0 I0 w I m H) {id:Nat} {o o':AObj} {b:Nat} (ho:H[id]?=some o) (hl:o.live=true) (hm:m id=some b) (hg:w.grownBy w' (some b))
  (z7:∀s,w.shape? b=some s->w'.shape? b=some s) (hO:∀m',Fut H.length w I m w' I m'->U4 w' I m' (H.length+1) (some b) o'):
  WS W0 I0 w' I (upd m H.length (some b)) (H.set id .dead++[o'])/\Fut H.length w I m w' I (upd m H.length (some b)):=by
 obtain⟨z8,z6,za⟩:=h.own id o b ho hl hm;have hid:id<H.length:=(zB.1 ho).1;have hf:Fut H.length w I m w' I (upd m H.length (some b)):=⟨⟨λ_ h=>h,λc hc=>hg.block c (h.iw c hc).1 (λe=>z6 (by injection e with e;exact e▸hc))⟩,λ_ hid=>Uy hid,λc s hs=>by
  by_cases hcb:c=b
  ·subst hcb;exact z7 s hs
  rw[Rv (hg.block c (Ho hs) (λe=>hcb (by injection e)))];exact hs⟩
 have z1:∀(k:Nat) (p:AObj),(H.set id .dead++[o'])[k]?=some p->(k<H.length/\p= .dead)\/(k<H.length/\k≠id/\H[k]?=some p)\/(k=H.length/\p=o'):=λk p hp=>by
  rcases Nat.lt_trichotomy k H.length with h1|h1|h1
  ·rw[zF (by simpa using h1)]at hp;by_cases hk:k=id
   ·subst hk;rw[zL h1]at hp;exact .inl ⟨h1,(Option.some.inj hp).symm⟩
   rw[zE (by omega)]at hp;exact .inr (.inl ⟨h1,hk,hp⟩)
  ·subst h1;rw[zH (by simp)]at hp;simp at hp;exact .inr (.inr ⟨rfl,hp.symm⟩)
  have:=(zB.1 hp).1;simp at this;omega
 refine⟨⟨h.below.grown hg h.below.size (λk hk=>by injection hk with hk;omega),h.i0,λc hc=>⟨wd (h.iw c hc).1 hg.size,(h.iw c hc).2⟩,λk p hp=>?_,λk p c hp lp mc=>?_,λi j oi oj c hi hj li lj mi mj=>?_⟩,hf⟩
 ·rw[List.length_append,wZ,List.length_singleton];rcases z1 k p hp with⟨h1,rfl⟩|⟨h1,h2,h3⟩|⟨rfl,rfl⟩
  ·trivial
  ·rw[Uy h1];by_cases hlp:p.live=true
   ·exact(h.obj k p h3).mono hf (by omega) (λ_ c hc=>hg.block c (h.own k p c h3 hlp hc).2.2 (λe=>h2 (by injection e with e;subst e;exact h.inj k id p o c h3 ho hlp hl hc hm)))
   exact(h.obj k p h3).mono hf (by omega) (λhl'=>absurd hl' hlp)
  rw[Q8];exact hO _ hf
 ·rcases z1 k p hp with⟨h1,rfl⟩|⟨h1,h2,h3⟩|⟨rfl,rfl⟩
  ·simp[AObj.live]at lp
  ·rw[Uy h1]at mc;obtain⟨h3,h4,h5⟩:=h.own k p c h3 lp mc;exact⟨h3,h4,wd h5 hg.size⟩
  rw[Q8]at mc;cases mc;exact⟨z8,z6,wd za hg.size⟩
 rcases z1 i oi hi with⟨h1,rfl⟩|⟨h1,h2,h3⟩|⟨rfl,rfl⟩
 ·simp[AObj.live]at li
 ·rcases z1 j oj hj with⟨g1,rfl⟩|⟨g1,g2,g3⟩|⟨rfl,rfl⟩
  ·simp[AObj.live]at lj
  ·rw[Uy h1]at mi;rw[Uy g1]at mj;exact h.inj i j oi oj c h3 g3 li lj mi mj
  rw[Uy h1]at mi;rw[Q8]at mj;cases mj;exact absurd (h.inj i id oi o b h3 ho li hl mi hm) h2
 rcases z1 j oj hj with⟨g1,rfl⟩|⟨g1,g2,g3⟩|⟨rfl,rfl⟩
 ·simp[AObj.live]at lj
 ·rw[Uy g1]at mj;rw[Q8]at mi;cases mi;exact absurd (h.inj j id oj o b g3 ho lj hl mj hm) g2
 rfl
def Jz(H:List AObj):AV->Option (List AV)
 | .list ys=>some ys
 | .sl id c lo len=>match H[id]? with
  |some (.arr _ c' xs)=>if c=c'/\lo+len<=xs.length then some ((xs.drop lo).take len)else none
  |_=>none
 | .nils=>some []
 |_=>none
def Jn(hw:WS W0 I0 w I m H){v:Value}{x:AV}{ys:List AV}(hv:VR w I m H.length v x)(h:Jz H x=some ys):
  ∃(ao:Option Addr) (cap:Nat) (u:Nat->Nat->Value),v= .slice ao ys.length cap/\
   (0<ys.length->∃ad,ao=some ad/\∃c,(∀y∈ys,y.cells.length=c)/\∀i j,i<ys.length->j<c->w.cell? (ad.add (i * c+j))=some (u i j))/\
   (∀(i:Nat) (x:AV),ys[i]?=some x->∀(j:Nat) (y:AV),x.cells[j]?=some y->PVR w I (u i j) y):=by
 cases x with
 |list zs=>simp only[Jz,Option.some.injEq]at h;subst h;obtain⟨a,cap,c,u,rfl,_,_,hc,ha,hu⟩:=hv.list_inv.list_inv;exact⟨a,cap,u,rfl,λh0=>by obtain⟨ad,e,_,hcell⟩:=ha h0;exact⟨ad,e,c,hc,hcell⟩,hu⟩
 |nils=>simp only[Jz,Option.some.injEq]at h;subst h;obtain rfl:=hv.nils_inv;exact⟨none,0,λ_ _=>undef,rfl,λh0=>by simp at h0,λi x hx=>by simp at hx⟩
 |sl id c lo len=>
  simp only[Jz]at h;split at h
  ·rename_i e c' xs ho;split at h
   ·rename_i hc;obtain⟨rfl,hl⟩:=hc;simp only[Option.some.injEq]at h;subst h;have hlen:((xs.drop lo).take len).length=len:=by simp;omega
    rcases hv.sl_inv with⟨b,cap,t,hb,hn,hs,hl',hmax,rfl⟩|⟨hb,hn,rfl,rfl,rfl⟩|⟨ad,hn,hlo,rfl,rfl⟩
    ·rcases hw.obj id _ ho with⟨e1,rfl⟩|⟨b',z1,vs,z6,hh,q1,q2,q3,q4,hr⟩
     ·rw[hb]at e1;cases e1
     obtain rfl:b=b':=by rw[hb]at z6;exact Option.some.inj z6
     refine⟨_,cap,λi j=>vs.getD ((lo+i) * c+j) undef,by rw[hlen],λ_=>⟨_,rfl,c,λx hx=>q4 x (List.mem_of_mem_drop (List.mem_of_mem_take hx)),λi j hi hj=>?_⟩,λi x hx j z hz=>?_⟩
     ·rw[hlen]at hi;rw[Addr.add_lit,cell_of_row w b _ vs e (0,0) hh];simp only[yO];have z7:(lo+i) * c+j<vs.size:=by rw[q3];have:(lo+i+1) * c<=z1 * c:=yF c (by omega);rw[yO (lo+i)]at this;omega
      rw[yO]at z7;rw[show lo * c+(i * c+j)=lo * c+i * c+j by omega];simp[z7]
     rw[xR]at hx;split at hx
     ·rw[List.getElem?_drop]at hx;obtain⟨v,hv,hp⟩:=hr (lo+i) x hx j z hz;simp only[Array.getD_eq_getD_getElem?,hv,wC];exact hp
     cases hx
    ·exact⟨none,0,λ_ _=>undef,by rw[hlen],λh0=>by simp at h0,λi x hx=>by simp at hx⟩
    exact⟨some ad,0,λ_ _=>undef,by rw[hlen],λh0=>by simp at h0,λi x hx=>by simp at hx⟩
   cases h
  cases h
 |_=>simp[Jz]at h
end
def Q0(u:Nat->Nat->Value)(n c:Nat):List Value:=(yR (n * c)).map λq=>u (q / c) (q % c)
def Q4(u:Nat->Nat->Value)(n c:Nat):(Q0 u n c).length=n * c:=by simp[Q0]
def Su(u:Nat->Nat->Value)(n c i j:Nat)(hi:i<n)(hj:j<c):(Q0 u n c)[i * c+j]?=some (u i j):=by
 have z1:i * c+j<n * c:=by have:(i+1) * c<=n * c:=yF c hi;rw[yO]at this;omega
 have h1:(i * c+j) / c=i:=by rw[sf,Nat.add_mul_div_right _ _ (by omega),Nat.div_eq_of_lt hj];omega
 have h2:(i * c+j) % c=j:=by rw[sf,Nat.add_mul_mod_self_right,Nat.mod_eq_of_lt hj]
 simp[Q0,up z1,h1,h2]
def Um(u:Nat->Nat->Value)(n c q:Nat)(v:Value)(h:(Q0 u n c)[q]?=some v):q<n * c/\0<c/\q / c<n/\q % c<c/\q=q / c * c+q % c/\v=u (q / c) (q % c):=by
 have z1:q<n * c:=by have:=(zB.1 h).1;rwa [Q4]at this
 have hc:0<c:=by
  rcases vz c with h0|h0
  ·subst h0;simp at z1
  exact h0
 refine⟨z1,hc,(Nat.div_lt_iff_lt_mul hc).2 z1,sk _ hc,by rw[td];exact(tT q c).symm,?_⟩;simp only[Q0,zU,up z1,wG,Option.some.injEq]at h;exact h.symm
def A6(S:AS)(e:TypeId)(c:Nat):AV->Option (List AV×List AObj)
 | .nils=>some ([],S.hp)
 | .sl id c' 0 len=>match S.hp[id]? with
  |some (.arr e' c'' xs)=>if c'=c/\c''=c/\e'=e/\len=xs.length then some (xs,S.hp.set id .dead)else none
  |_=>none
 |_=>none
def Bj (hT:TOk P T) (hw:Qt ops S o=some true) {s x:Operand} {t e:TypeId} (ho:o.op= .call ⟨.builtin .append,#[s,x],#[t,t]⟩) {it ei:TI} (ht:look T t=some it) (hit:it.desc= .slice e) (he:look T e=some ei)
  (hz:ei.zero.cells.size=ei.size) (y2:0<ei.size) {sv xv:AV} (hs:rho S.sl s=some sv) (hx:rho S.sl x=some xv) {xs ys:List AV} {H1:List AObj} (hb:A6 S e ei.size sv=some (xs,H1)) (hy:Jz S.hp xv=some ys)
  (zw:∀y∈ys,y.cells.length=ei.size/\y.cells.all AV.leaf=true) (hbound:(xs.length+ys.length) * ei.bytes<=140737488355328) (hlen:xs.length+ys.length<=9223372036854775807) (hd:Wq nt o=true)
  (hR:R (({ S with hp:=H1++[.arr e ei.size (xs++ys)] }:AS).putD o.dst (.sl S.hp.length ei.size 0 (xs.length+ys.length)))):Wb P nt k true ops o S R:=λC a w K Q hst hK=>by
 unfold OpW;rw[if_pos (hst.wanted hw)];obtain⟨I,m,zc,zr,hk,hE⟩:=hst;obtain⟨ao,cap,u,zk,hcell,zx⟩:=Jn zc (Qr zr hx) hy;have zy:=Qr zr hs;obtain⟨ti,zl,tz,ts,tb⟩:=hT.info he;have zi:=hT.und ht;rw[hit]at zi;have zm:H1.length=S.hp.length:=by
  unfold A6 at hb;split at hb
  ·simp only[Option.some.injEq,Prod.mk.injEq]at hb;rw[<-hb.2]
  ·split at hb
   ·split at hb
    ·simp only[Option.some.injEq,Prod.mk.injEq]at hb;rw[<-hb.2];simp
    cases hb
   cases hb
  cases hb
 -- what the run comes to decides all
 have fin:∀(v:Value) (w':World) (m':Nat->Option Nat),(Builtin.append_ #[t,t] o.type #[a.eval s,a.eval x]).run P w= .ok v w'->WS C.W0 C.I0 w' I m' (H1++[.arr e ei.size (xs++ys)])->Fut S.hp.length w I m w' I m'->
   VR w' I m' (S.hp.length+1) v (.sl S.hp.length ei.size 0 (xs.length+ys.length))->wpA P o a w K Q:=λv w' m' z6 g1 g2 g3=>by
  unfold wpA;have:(execOp a.eval o).run P w= .ok (.value v) w':=by simp[execOp,ho,resolve,invoke,builtin,z6]
  rw[this];exact hK _ _ w' hR (St.value zr hk hE g1 g2 (by simp[zm]) (Qo hd) (by simpa[zm]using g3)) (λe=>by cases e)
 -- nothing is appended
 have zero:ys=[]->∀(b0:Option Addr) (n0 c0:Nat),n0<=c0->a.eval s= .slice b0 n0 c0->(Builtin.append_ #[t,t] o.type #[a.eval s,a.eval x]).run P w= .ok (.slice b0 n0 c0) w:=λz8 b0 n0 c0 hle zn=>by rw[zn,zk,z8];cases ao<;>cases b0<;>simp[Builtin.append_,run_underlying zi,sizeOf,typeInfo,zl,Builtin.lenOf,Builtin.firstCells,hle,loadCells,loadCellsFrom,storeCells]
 -- a new row
 have newrow:∀(z7:Nat) (cs:Array Value),xs.length+ys.length<=z7->z7<=maxLen->cs.size=z7 * ei.size->
   (∀(i:Nat) (z:AV),(xs++ys)[i]?=some z->z.cells.length=ei.size/\∀(j:Nat) (y:AV),z.cells[j]?=some y->∃v,cs[i * ei.size+j]?=some v/\PVR w I v y)->
   (Builtin.append_ #[t,t] o.type #[a.eval s,a.eval x]).run P w= .ok (.slice (some ⟨w.heap.size,0,none⟩) (xs.length+ys.length) z7) (w.drew.alloc (.cells cs e))->WS C.W0 C.I0 w I m H1->wpA P o a w K Q:=λz7 cs h1 h2 h3 h4 z6 zo=>by
  have y3:Below w.heap.size w (w.drew.alloc (.cells cs e)):=(Below.refl _ _).drew.alloc (zQ _) _;obtain⟨g1,g2⟩:=zo.push y3 (some w.heap.size) (λb e=>by injection e with e;subst e;simp) (.arr e ei.size (xs++ys)) (λm' hf hm=> .inr ⟨w.heap.size,z7,cs,rfl,heap_alloc_new w.drew _,by simpa using h1,h2,h3,
   λz zd=>by obtain⟨i,hi⟩:=yK.1 zd;exact(h4 i z hi).1,λi z hi j y hy=>by obtain⟨v,q1,q2⟩:=(h4 i z hi).2 j y hy;exact⟨v,q1,q2.mono hf.ext⟩⟩)
  rw[zm]at g1 g2;refine fin _ _ _ z6 g1 g2 ?_;have:=VR.sl (w:=w.drew.alloc (.cells cs e)) (I:=I) (m:=upd m S.hp.length (some w.heap.size)) (n:=S.hp.length+1) S.hp.length ei.size 0 (xs.length+ys.length) z7 w.heap.size e (by omega) (Q8 _ _ _)
   (by have:=heap_alloc_new w.drew (.cells cs e);simp only[World.size_drew]at this;simp only[World.shape?,this,h3,x_]) h1 (by omega)
  simpa using this
 have zg:∀y∈ys,y.cells.length=ei.size:=λy hy=>(zw y hy).1;have news:0<ys.length->∃ad,ao=some ad/\∀(q:Nat) (v:Value),(Q0 u ys.length ei.size)[q]?=some v->w.cell? (ad.add q)=some v:=λh0=>by
  obtain⟨ad,e1,c,h1,h2⟩:=hcell h0;have hc:c=ei.size:=by rw[<-h1 _ (zK h0),zg _ (zK h0)]
  subst hc;refine⟨ad,e1,λq v hq=>?_⟩;obtain⟨_,_,q1,q2,q3,rfl⟩:=Um _ _ _ _ _ hq;have:=h2 _ _ q1 q2;rw[<-q3]at this;exact this
 have one:∀v∈Q0 u ys.length ei.size,v.oneCell'=true:=λv hv=>by obtain⟨q,hq⟩:=yK.1 hv;obtain⟨_,_,q1,q2,q3,rfl⟩:=Um _ _ _ _ _ hq;have y4:ys[q / ei.size]?=some ys[q / ei.size]:=zI q1;have yb:=zg _ (zK q1);have zz:(ys[q / ei.size]).cells[q % ei.size]?=some ((ys[q / ei.size]).cells[q % ei.size]'(by omega)):=zI (by omega);exact(VR.pure (m:=m) (n:=0) (zx _ _ y4 _ _ zz)).oneCell (zW.1 (zw _ (zK q1)).2 _ (zJ zz))
 have yrel:∀(i:Nat) (z:AV),ys[i]?=some z->∀(j:Nat) (y:AV),z.cells[j]?=some y->(Q0 u ys.length ei.size)[i * ei.size+j]?=some (u i j)/\PVR w I (u i j) y:=λi z zd j y hy=>by have hi:=(zB.1 zd).1;have hj:=(zB.1 hy).1;rw[zg z (zJ zd)]at hj;exact⟨Su _ _ _ _ _ hi hj,zx i z zd j y hy⟩
 have capw:∀zp,xs.length+ys.length<=grownCap w (xs.length+ys.length) zp e/\grownCap w (xs.length+ys.length) zp e<=maxLen:=λzp=>
  ⟨grownCap_ge _ _ _ _,grownCap_le_maxLen w _ zp e (by unfold maxLen;omega)⟩
 have fromNone:a.eval s= .slice none 0 0->xs=[]->WS C.W0 C.I0 w I m H1->wpA P o a w K Q:=λzn y5 zo=>by
  subst y5;rcases vz ys.length with h0|h0
  ·have z8:=wK h0;have z6:=zero z8 none 0 0 (zQ _) zn;obtain⟨g1,g2⟩:=zo.push (Below.refl _ _) none (λb e=>by cases e) (.arr e ei.size ([]++ys)) (λm' _ _=> .inl ⟨rfl,by simp[z8]⟩);rw[zm]at g1 g2;refine fin _ _ _ z6 g1 g2 ?_;rw[h0];exact .slnone _ _ (by omega) (Q8 _ _ _)
  obtain⟨ad,rfl,za⟩:=news h0;have z6:=run_append_nil (P:=P) w t o.type e ti ei.zero zi zl tz ad ys.length cap (Q0 u ys.length ei.size) (by rw[Q4,ts]) za h0 (by simp at hlen;omega) (by rw[tb];simp at hbound;omega);obtain⟨c1,c2⟩:=capw 0;simp only[List.length_nil,x_]at c1 c2;refine newrow (grownCap w ys.length 0 e) _ (by simpa using c1) c2 ?_ ?_ (by rw[zn,zk];simpa using z6) zo
  ·simp only[wX,xW,Q4,size_zeroCells,hz,<-yO]
   congr 1;omega
  intro i z hi;simp only[xZ]at hi;refine⟨zg z (zJ hi),λj y hy=>?_⟩;obtain⟨q1,q2⟩:=yrel i z hi j y hy;exact⟨_,by rw[y_ (by simpa using(zB.1 q1).1)];simpa using q1,q2⟩
 unfold A6 at hb;split at hb
 ·simp only[Option.some.injEq,Prod.mk.injEq]at hb;obtain⟨rfl,rfl⟩:=hb;exact fromNone zy.nils_inv rfl zc
 ·rename_i id c' len;split at hb
  ·rename_i e' c'' z1 zq;split at hb
   ·rename_i hc;obtain⟨rfl,rfl,rfl,rfl⟩:=hc;simp only[Option.some.injEq,Prod.mk.injEq]at hb;obtain⟨rfl,rfl⟩:=hb;have zb:=zc.kill id;rcases zy.sl_inv with⟨b,cp,t',hb,hn,zt,hl',hmax,zh⟩|⟨hb,hn,_,yc,zh⟩|⟨ad,hn,hlo,_,_⟩
    ·rcases zc.obj id _ zq with⟨e1,_⟩|⟨b',y6,vs,zj,hh,q1,q2,q3,q4,hr⟩
     ·rw[hb]at e1;cases e1
     obtain rfl:b=b':=by rw[hb]at zj;exact Option.some.inj zj
     have y7:cp=y6:=by
      have:w.shape? b=some (e',vs.size):=by simp[World.shape?,hh]
      rw[this]at zt;simp only[Option.some.injEq,Prod.mk.injEq,x_,q3]at zt;exact(Nat.eq_of_mul_eq_mul_right y2 zt.2).symm
     subst y7;simp only[uP]at zh;have xrel:∀(i:Nat) (z:AV),z1[i]?=some z->∀j,j<ei.size->i * ei.size+j<z1.length * ei.size:=λi z hi j hj=>by have:(i+1) * ei.size<=z1.length * ei.size:=yF _ (zB.1 hi).1;rw[yO]at this;omega
     have y8:z1.length * ei.size<=vs.size:=by rw[q3];exact yF _ q1
     have y0:∀(w':World),w'.shape? b=some (e',cp * ei.size)->z1.length+ys.length<=cp->VR w' I (upd m S.hp.length (some b)) (S.hp.length+1) (.slice (some ⟨b,0,none⟩) (z1.length+ys.length) cp) (.sl S.hp.length ei.size 0 (z1.length+ys.length)):=λw' y9 hle=>by have:=VR.sl (w:=w') (I:=I) (m:=upd m S.hp.length (some b)) (n:=S.hp.length+1) S.hp.length ei.size 0 (z1.length+ys.length) cp b e' (by omega) (Q8 _ _ _) (by simpa using y9) hle (by omega);simpa using this
     rcases vz ys.length with h0|h0
     ·have z8:=wK h0;have z6:=zero z8 _ _ _ hl' zh;obtain⟨g1,g2⟩:=zc.adopt (w':=w) (o':= .arr e' ei.size (z1++ys)) zq rfl hb (World.grownBy.refl _ _) (λ_ h=>h) (λm' hf=> .inr ⟨b,cp,vs,rfl,hh,by simp[z8,q1],q2,q3,by simpa[z8]using q4,by simpa[z8]using hr⟩);refine fin _ _ _ z6 g1 g2 ?_;have:=y0 w (by simp[World.shape?,hh,q3]) (by omega);rw[h0]at this |-;exact this
     obtain⟨ad,rfl,za⟩:=news h0;by_cases hroom:z1.length+ys.length<=cp
     ·have ze:z1.length * ti.size+(Q0 u ys.length ei.size).length<=vs.size:=by rw[Q4,ts,q3,<-yO];exact yF _ hroom
      have z6:=run_append_room (P:=P) w t o.type e' ti zi zl b z1.length cp vs hh ad ys.length cap (Q0 u ys.length ei.size) (by rw[Q4,ts]) za one hroom ze;rw[ts]at z6 ze;have zu:(vs.toList.take (z1.length * ei.size)++Q0 u ys.length ei.size++vs.toList.drop (z1.length * ei.size+(Q0 u ys.length ei.size).length)).toArray=spl vs (z1.length * ei.size) (Q0 u ys.length ei.size).toArray:=by simp[spl]
      rw[zu]at z6;have y1:z1.length * ei.size+(Q0 u ys.length ei.size).toArray.size<=vs.size:=by simpa using ze
      have zf:=Us vs (z1.length * ei.size) (Q0 u ys.length ei.size).toArray y1;obtain⟨g1,g2⟩:=zc.adopt (o':= .arr e' ei.size (z1++ys)) zq rfl hb (Rt w b (spl vs (z1.length * ei.size) (Q0 u ys.length ei.size).toArray)) (Tx hh zf)
       (λm' hf=> .inr ⟨b,cp,_,rfl,setRow_heap w b vs _ e' _ hh,by simpa using hroom,q2,by rw[zf,q3],λz zd=>by
         rcases zV.1 zd with h1|h1
         ·exact q4 z h1
         ·exact zg z h1,λi z hi j y hy=>by
         rw[Hz _ _ _ _ y1];by_cases hix:i<z1.length
         ·rw[zF hix]at hi;have hj:j<ei.size:=by have:=(zB.1 hy).1;rw[q4 z (zJ hi)]at this;exact this
          have:=xrel i z hi j hj;rw[if_neg (by omega)];obtain⟨v,p1,p2⟩:=hr i z hi j y hy;exact⟨v,p1,p2.mono hf.ext⟩
         rw[zH (by omega)]at hi;obtain⟨p1,p2⟩:=yrel _ z hi j y hy;have p3:=(zB.1 p1).1;have p4:i * ei.size=z1.length * ei.size+(i - z1.length) * ei.size:=by rw[<-yO];congr 1;omega
         rw[if_pos (by simp only[xW];omega)];exact⟨_,by rw[show i * ei.size+j - z1.length * ei.size=(i - z1.length) * ei.size+j by omega];simpa using p1,p2.mono hf.ext⟩⟩)
      refine fin _ _ _ (by rw[zh,zk];exact z6) g1 g2 (y0 _ ?_ hroom);simp[World.shape?,setRow_heap w b vs _ e' _ hh,zf,q3]
     have holds:∀(j:Nat) (v:Value),(vs.toList.take (z1.length * ei.size))[j]?=some v->w.cell? ((⟨b,0,none⟩:Addr).add j)=some v:=λj v hj=>by
      rw[Addr.add_lit,x_,cell_of_row w b j vs e' (0,0) hh];rw[xR]at hj;split at hj
      ·simpa using hj
      cases hj
     have z6:=run_append_grow (P:=P) w t o.type e' ti ei.zero zi zl tz ⟨b,0,none⟩ z1.length cp (vs.toList.take (z1.length * ei.size)) (by rw[ts];simp;omega) holds ad ys.length cap (Q0 u ys.length ei.size) (by rw[Q4,ts]) za (by omega) (by omega)
      (growslice_fits (by omega) (by rw[tb];exact hbound))
     obtain⟨c1,c2⟩:=capw cp;refine newrow _ _ c1 c2 ?_ ?_ (by rw[zh,zk];exact z6) zb
     ·have:(vs.toList.take (z1.length * ei.size)).length=z1.length * ei.size:=by simp;omega
      simp only[wX,xW,Q4,size_zeroCells,hz,this,<-yO]
      congr 1;omega
     intro i z hi;have zv:(vs.toList.take (z1.length * ei.size)).length=z1.length * ei.size:=by simp;omega
     by_cases hix:i<z1.length
     ·rw[zF hix]at hi;refine⟨q4 z (zJ hi),λj y hy=>?_⟩;have hj:j<ei.size:=by have:=(zB.1 hy).1;rw[q4 z (zJ hi)]at this;exact this
      have ya:=xrel i z hi j hj;obtain⟨v,p1,p2⟩:=hr i z hi j y hy;refine⟨v,?_,p2⟩;rw[y_ (by simp;omega),y_ (by simp;omega),List.getElem?_toArray,xR,if_pos ya];simpa using p1
     rw[zH (by omega)]at hi;refine⟨zg z (zJ hi),λj y hy=>?_⟩;obtain⟨p1,p2⟩:=yrel _ z hi j y hy;have p3:=(zB.1 p1).1;have p4:i * ei.size=z1.length * ei.size+(i - z1.length) * ei.size:=by rw[<-yO];congr 1;omega
     refine⟨_,?_,p2⟩;rw[y_ (by simp only[wX,xW,zv];omega),u6 (by simp only[xW,zv];omega)];simp only[xW,zv];rw[show i * ei.size+j - z1.length * ei.size=(i - z1.length) * ei.size+j by omega];simpa using p1
    ·rcases zc.obj id _ zq with⟨_,e1⟩|⟨b',_,_,zj,_⟩
     ·exact fromNone zh e1 zb
     rw[hb]at zj;cases zj
    omega
   cases hb
  cases hb
 cases hb
end
end
section
open Go.RowKit
section
variable {P:Program} [Env P] {T:TT} {nt k:Nat} {S:AS} {Q:Exit->AS->Prop}
def En(P:Program)[Env P](T:TT)(nt k:Nat)(ops:Array Oper)(Q:AS->Prop):List Oper->AS->Prop
 |[],S=>Q S
 |o::l,S=>if Ap o.op then(match H5 T ops S o with
   |some S'=>En P T nt k ops Q l S'
   |none=>Wb P nt k true ops o S (En P T nt k ops Q l))
  else Wb P nt k true ops o S (En P T nt k ops Q l)
def Zf(hT:TOk P T){ops:Array Oper}{R:AS->Prop}{C:Cx P}:∀(l:List Oper) (S:AS) (a:Act) (w:World),Uu nt l=true->En P T nt k ops R l S->St C nt k S a w->Iy P ops (d1i C nt k R) l a w
 |[],S,a,w,_,h,hs=>z0m ⟨S,h,hs⟩
 |o::l,S,a,w,hd,h,hs=>by
  simp only[Uu,uw,zX]at hd;unfold En at h;have key:Wb P nt k true ops o S (En P T nt k ops R l):=by
   split at h
   ·split at h
    ·rename_i S' z1;exact Z9 hT z1 hd.1 (λ_=>rfl) (by assumption) h
    exact h
   exact h
  have:=key C a w (Iy P ops (d1i C nt k R) l) (d1i C nt k R) hs (λS' a' w' hR z6 _=>Zf hT l S' a' w' hd.2 hR z6);unfold Iy;exact this
def Ra(hT:TOk P T){id:Nat}{l:List Oper}(hd:Uu nt l=true)(h:En P T nt k l.toArray (Q .normal) l S):AWP P nt k (.region id l.toArray false) Q S:=λC a w hs=>
 X5 (Lk (Zf hT l S a w hd h hs))
def Qi {α:Type} {c:Code} (F:α->AS) (Inv:α->Prop) (mu:α->Nat)
  (h:∀x,Inv x->(∀y,Inv y->mu y<mu x->O9 P nt k c Q (F y))->AWP P nt k c (Se (O9 P nt k c Q) Q) (F x)):∀x,Inv x->O9 P nt k c Q (F x):=by
 have key:∀n x,mu x=n->Inv x->O9 P nt k c Q (F x):=by
  intro n;induction n using Nat.strongRecOn with
  |_ n ih=>exact λx hx hI=>q08 (h x hI λy hy z1=>ih (mu y) (by omega) y rfl hy)
 exact λx hI=>key _ x rfl hI
def Qp {c:Code} {sl sl':List (Nat×AV)} {H H':List AObj} (G:List AObj) (h:O9 P nt k c Q ⟨sl',H'⟩) (hH:H=H'++G) (hk:k<=H'.length) (h0:Av sl sl')
  (hu:sl'.all (λp=>p.2.under H'.length)=true) (z1:H'.all (E7 H'.length)=true):O9 P nt k c Q ⟨sl,H⟩:=by
 subst hH;exact Qc (sl':=sl') (Z7 G h hk hu z1) h0
end
def g0l(g:Bool)(b:Bool):deref g (.bool b)=some (.bool b):=rfl
def k0g(H:List AObj)(b:Bool):Wm H (.bool b)=some (.bool b):=by simp[Wm,AV.pure]
def j0a(H:List AObj)(b:Bool):Wv H (.bool b)=some (.bool b):=by simp[Wv,Wm,AV.pure]
def u06(H:List AObj)(b:Bool):Es H (.bool b)=some (.bool b):=by simp[Es,Wv,Wm,AV.pure]
def k0y(H:List AObj)(b:Bool):R8 H (.bool b)=some (.bool b):=by simp[R8,Es,Wv,Wm,AV.pure]
def f0e(b:Bool):AV.nrm1 (.bool b)=(.bool b):=rfl
def f1s(b:Bool):AV.nrm (.bool b)=(.bool b):=rfl
def d0r(g:Bool)(k:IntKind)(n:Int):deref g (.int k n)=some (.int k n):=rfl
def w1e(H:List AObj)(k:IntKind)(n:Int):Wm H (.int k n)=some (.int k n):=by simp[Wm,AV.pure]
def x1u(H:List AObj)(k:IntKind)(n:Int):Wv H (.int k n)=some (.int k n):=by simp[Wv,Wm,AV.pure]
def y11(H:List AObj)(k:IntKind)(n:Int):Es H (.int k n)=some (.int k n):=by simp[Es,Wv,Wm,AV.pure]
def f0c(H:List AObj)(k:IntKind)(n:Int):R8 H (.int k n)=some (.int k n):=by simp[R8,Es,Wv,Wm,AV.pure]
def k15(k:IntKind)(n:Int):AV.nrm1 (.int k n)=(.int k n):=rfl
def y2w(k:IntKind)(n:Int):AV.nrm (.int k n)=(.int k n):=rfl
def y1d(g:Bool)(s:List UInt8):deref g (.str s)=some (.str s):=rfl
def d0k(H:List AObj)(s:List UInt8):Wm H (.str s)=some (.str s):=by simp[Wm,AV.pure]
def f0u(H:List AObj)(s:List UInt8):Wv H (.str s)=some (.str s):=by simp[Wv,Wm,AV.pure]
def z1n(H:List AObj)(s:List UInt8):Es H (.str s)=some (.str s):=by simp[Es,Wv,Wm,AV.pure]
def f0a(H:List AObj)(s:List UInt8):R8 H (.str s)=some (.str s):=by simp[R8,Es,Wv,Wm,AV.pure]
def v1j(s:List UInt8):AV.nrm1 (.str s)=(.str s):=rfl
def w2h(s:List UInt8):AV.nrm (.str s)=(.str s):=rfl
def k02(g:Bool)(s:List AV):deref g (.list s)=some (.list s):=rfl
def j09(H:List AObj)(s:List AV):Wm H (.list s)=some (.list s):=by simp[Wm,AV.pure]
def j0s(H:List AObj)(s:List AV):Wv H (.list s)=some (.list s):=by simp[Wv,Wm,AV.pure]
def k0z(H:List AObj)(s:List AV):Es H (.list s)=some (.list s):=by simp[Es,Wv,Wm,AV.pure]
def g0w(H:List AObj)(s:List AV):R8 H (.list s)=some (.list s):=by simp[R8,Es,Wv,Wm,AV.pure]
def v1o(s:List AV):AV.nrm1 (.list s)=(.list s):=rfl
def v1y(s:List AV):AV.nrm (.list s)=(.list s):=rfl
def k0w(g:Bool):deref g .nils=some .nils:=rfl
def g0s(g:Bool):deref g .nilp=some .nilp:=rfl
def k0u(H:List AObj):Wm H .nilp=some .nilp:=by simp[Wm,AV.pure]
def k0n(H:List AObj):Wv H .nilp=some .nilp:=by simp[Wv,Wm,AV.pure]
def k07(H:List AObj):Es H .nilp=some .nilp:=by simp[Es,Wv,Wm,AV.pure]
def k0m(H:List AObj):R8 H .nilp=some .nilp:=by simp[R8,Es,Wv,Wm,AV.pure]
def f0r:AV.nrm1 .nilp= .nilp:=rfl
def v15:AV.nrm .nilp= .nilp:=rfl
def k0r(g:Bool):deref g .nilf=some .nilf:=rfl
def g0z(g:Bool):deref g .nili=some .nili:=rfl
def f0q(g:Bool):deref g .ifc=some .ifc:=rfl
def j0j(H:List AObj):Wm H .nilf=some .nilf:=by simp[Wm,AV.pure]
def k04(H:List AObj):Wm H .nili=some .nili:=by simp[Wm,AV.pure]
def d0l(H:List AObj):Wm H .ifc=some .ifc:=by simp[Wm,AV.pure]
def k0o(H:List AObj):Wv H .nilf=some .nilf:=by simp[Wv,Wm,AV.pure]
def u0n(H:List AObj):Wv H .nili=some .nili:=by simp[Wv,Wm,AV.pure]
def x1k(H:List AObj):Wv H .ifc=some .ifc:=by simp[Wv,Wm,AV.pure]
def g0x(H:List AObj):Es H .nilf=some .nilf:=by simp[Es,Wv,Wm,AV.pure]
def g0i(H:List AObj):Es H .nili=some .nili:=by simp[Es,Wv,Wm,AV.pure]
def c0n(H:List AObj):Es H .ifc=some .ifc:=by simp[Es,Wv,Wm,AV.pure]
def k08(H:List AObj):R8 H .nilf=some .nilf:=by simp[R8,Es,Wv,Wm,AV.pure]
def k01(H:List AObj):R8 H .nili=some .nili:=by simp[R8,Es,Wv,Wm,AV.pure]
def y17(H:List AObj):R8 H .ifc=some .ifc:=by simp[R8,Es,Wv,Wm,AV.pure]
def z1j:AV.nrm1 .nilf= .nilf:=rfl
def c07:AV.nrm1 .nili= .nili:=rfl
def u1g:AV.nrm1 .ifc= .ifc:=rfl
def g1o:AV.nrm .nilf= .nilf:=rfl
def g1r:AV.nrm .nili= .nili:=rfl
def y2u:AV.nrm .ifc= .ifc:=rfl
def g00(g:Bool)(s:List AV):deref g (.iptr s)=some (.iptr s):=rfl
def g0m(H:List AObj)(s:List AV):Wm H (.iptr s)=some (.iptr s):=by simp[Wm,AV.pure]
def k0c(H:List AObj)(s:List AV):Wv H (.iptr s)=some (.iptr s):=by simp[Wv,Wm,AV.pure]
def u0m(H:List AObj)(s:List AV):Es H (.iptr s)=some (.iptr s):=by simp[Es,Wv,Wm,AV.pure]
def j0g(H:List AObj)(s:List AV):R8 H (.iptr s)=some (.iptr s):=by simp[R8,Es,Wv,Wm,AV.pure]
def f0l(s:List AV):AV.nrm1 (.iptr s)=(.iptr s):=rfl
def k1c(s:List AV):AV.nrm (.iptr s)=(.iptr s):=rfl
def f04(g:Bool):deref g .top=some .top:=rfl
def w18(H:List AObj):Wm H .top=some .top:=by simp[Wm,AV.pure]
def z1h(H:List AObj):Wv H .top=some .top:=by simp[Wv,Wm,AV.pure]
def y15(H:List AObj):Es H .top=some .top:=by simp[Es,Wv,Wm,AV.pure]
def x1a(H:List AObj):R8 H .top=some .top:=by simp[R8,Es,Wv,Wm,AV.pure]
def u1y:AV.nrm1 .top= .top:=rfl
def w2v:AV.nrm .top= .top:=rfl
def x15(g:Bool)(s:List AV):deref g (.agg s)=some (.agg s):=rfl
def y14(g:Bool)(s:List AV):deref g (.tup s)=some (.tup s):=rfl
def d1o(g:Bool)(f:Fn)(s t:List AV):deref g (.fn f s t)=some (.fn f s t):=rfl
def j0m(g:Bool)(a:Nat):deref g (.mref a)=some (.mref a):=rfl
def c0q(a:Nat):AV.pure (.mref a)=false:=by simp[AV.pure]
def Xg(m a:Nat):AV.under m (.mref a)=decide (a<m):=by simp[AV.under]
def q14(g:Bool)(a:Nat):deref g (.yld a)=some (.yld a):=rfl
def d1k(a:Nat):AV.pure (.yld a)=false:=by simp[AV.pure]
def M9(m a:Nat):AV.under m (.yld a)=decide (a<m):=by simp[AV.under]
def u0z(g:Bool)(a b:Nat):deref g (.vptr a b)=some (.vptr a b):=rfl
def f05(g:Bool)(a b c d:Nat):deref g (.ept a b c d)=some (.ept a b c d):=rfl
def j11(g:Bool)(a b c d:Nat):deref g (.sl a b c d)=some (.sl a b c d):=rfl
def O8(g p:Bool)(x:AV):deref g (.opt p x)=if(!g || p)=true then some x else none:=rfl
def g0a(H:List AObj):Wm H .nils=some (.list []):=rfl
def j0z(H:List AObj):Wv H .nils=some (.list []):=rfl
def j0i(H:List AObj):Es H .nils=some (.list []):=rfl
def j0p(H:List AObj):R8 H .nils=some (.list []):=rfl
def x1y:AV.nrm1 .nils= .list []:=rfl
def j1i:AV.nrm .nils= .list []:=rfl
def f1u(s:List AV):AV.nrm1 (.agg s)= .agg s:=rfl
def x22(f:Fn)(s t:List AV):AV.nrm1 (.fn f s t)= .fn f s t:=rfl
def q2m(s:List AV):AV.nrm (.agg s)= .agg (s.map AV.nrm1):=rfl
def k2j(f:Fn)(s t:List AV):AV.nrm (.fn f s t)= .fn f (s.map AV.nrm1) (t.map AV.nrm1):=rfl
def w1k(H:List AObj)(s:List AV):Wm H (.agg s)=if s.all AV.pure=true then some (.agg s)else none:=by rw[Wm];simp[AV.pure];all_goals simp
def d0u(H:List AObj)(s:List AV):Wv H (.agg s)=Wm H (.agg s):=rfl
def w1s(H:List AObj)(s:List AV):Es H (.agg s)=(Q5 (s.map (Wv H))).map .agg:=rfl
def w1f(H:List AObj)(s:List AV):R8 H (.agg s)=(Q5 (s.map (Wv H))).map .agg:=rfl
def q1k(H:List AObj)(s:List AV):R8 H (.tup s)=(Q5 (s.map (Es H))).map .tup:=rfl
def j16(H:List AObj)(id c lo len:Nat):Wm H (.sl id c lo len)=match H[id]? with
  |some (.arr _ c' xs)=>if c=c'/\lo+len<=xs.length then some (.list ((xs.drop lo).take len))else none
  |_=>none:=rfl
def k1f(H:List AObj)(id c lo len:Nat):Wv H (.sl id c lo len)=Wm H (.sl id c lo len):=rfl
def k18(H:List AObj)(id c lo len:Nat):Es H (.sl id c lo len)=Wm H (.sl id c lo len):=rfl
def u1n(H:List AObj)(id c lo len:Nat):R8 H (.sl id c lo len)=Wm H (.sl id c lo len):=rfl
def j0k(H:List AObj)(id off:Nat):Wv H (.vptr id off)=match H[id]? with
  |some (.vars cs)=>(Q5 (cs.map (Wm H))).map λys=> .iptr (ys.drop off)
  |_=>none:=rfl
def g0h(H:List AObj)(id off:Nat):Es H (.vptr id off)=Wv H (.vptr id off):=rfl
def j0o(H:List AObj)(id off:Nat):R8 H (.vptr id off)=Wv H (.vptr id off):=rfl
def j1w(H:List AObj)(f:Fn)(xs ys:List AV):Es H (.fn f xs ys)=match Q5 (xs.map (Wv H)),Q5 (ys.map (Wv H))with
  |some xs,some ys=>some (.fn f xs ys)
  |_,_=>none:=rfl
def j14(H:List AObj)(f:Fn)(xs ys:List AV):R8 H (.fn f xs ys)=Es H (.fn f xs ys):=rfl
def k1n(cs:List AV):AV.pure (.agg cs)=cs.all AV.pure:=by rw[AV.pure];simp
def f1d(cs:List AV):AV.pure (.tup cs)=cs.all AV.pure:=by rw[AV.pure];simp
def w21(f:Fn)(xs ys:List AV):AV.pure (.fn f xs ys)=(xs.all AV.pure && ys.all AV.pure):=by rw[AV.pure];simp
def c0l(b:Bool):AV.pure (.bool b)=true:=by simp[AV.pure]
def u1x(k:IntKind)(n:Int):AV.pure (.int k n)=true:=by simp[AV.pure]
def j1t(s:List UInt8):AV.pure (.str s)=true:=by simp[AV.pure]
def z1a(s:List AV):AV.pure (.list s)=true:=by simp[AV.pure]
def q11:AV.pure .nils=true:=by simp[AV.pure]
def w12:AV.pure .nilp=true:=by simp[AV.pure]
def d0d:AV.pure .nilf=true:=by simp[AV.pure]
def d0t:AV.pure .nili=true:=by simp[AV.pure]
def v1n:AV.pure .ifc=true:=by simp[AV.pure]
def f1n:AV.pure .top=true:=by simp[AV.pure]
def w1a(s:List AV):AV.pure (.iptr s)=true:=by simp[AV.pure]
def x1z(a b:Nat):AV.pure (.vptr a b)=false:=by simp[AV.pure]
def j1v(a b c d:Nat):AV.pure (.ept a b c d)=false:=by simp[AV.pure]
def y2j(a b c d:Nat):AV.pure (.sl a b c d)=false:=by simp[AV.pure]
def flat_agg(cs:List AV):AV.flat (.agg cs)=cs.all AV.flat:=by rw[AV.flat];simp
def v1x(cs:List AV):AV.flat (.tup cs)=cs.all AV.flat:=by rw[AV.flat];simp
def c0y(b:Bool):AV.flat (.bool b)=true:=by simp[AV.flat]
def g1f(k:IntKind)(n:Int):AV.flat (.int k n)=true:=by simp[AV.flat]
def j1o(s:List UInt8):AV.flat (.str s)=true:=by simp[AV.flat]
def Ni(n:Nat)(cs:List AV):AV.under n (.agg cs)=cs.all (AV.under n):=by rw[AV.under];simp
def q0i(n:Nat)(cs:List AV):AV.under n (.tup cs)=cs.all (AV.under n):=by rw[AV.under];simp
def v0l(n:Nat)(f:Fn)(xs ys:List AV):AV.under n (.fn f xs ys)=(xs.all (AV.under n) && ys.all (AV.under n)):=by rw[AV.under];simp
def j03(m:Nat)(b:Bool):AV.under m (.bool b)=true:=by simp[AV.under]
def d0y(m:Nat)(k:IntKind)(n:Int):AV.under m (.int k n)=true:=by simp[AV.under]
def c0b(m:Nat)(s:List UInt8):AV.under m (.str s)=true:=by simp[AV.under]
def g0o(m:Nat)(s:List AV):AV.under m (.list s)=true:=by simp[AV.under]
def j0b(m:Nat)(s:List AV):AV.under m (.iptr s)=true:=by simp[AV.under]
def g0y(m:Nat):AV.under m .nils=true:=by simp[AV.under]
def j00(m:Nat):AV.under m .nilp=true:=by simp[AV.under]
def u0t(m:Nat):AV.under m .nilf=true:=by simp[AV.under]
def u0k(m:Nat):AV.under m .nili=true:=by simp[AV.under]
def x17(m:Nat):AV.under m .ifc=true:=by simp[AV.under]
def x1h(m:Nat):AV.under m .top=true:=by simp[AV.under]
def Mo(m:Nat)(p:Bool)(x:AV):AV.under m (.opt p x)=x.under m:=by simp[AV.under]
def Xc(m a b:Nat):AV.under m (.vptr a b)=decide (a<m):=by simp[AV.under]
def N1(m a b c d:Nat):AV.under m (.ept a b c d)=decide (a<m):=by simp[AV.under]
def y0v(m a b c d:Nat):AV.under m (.sl a b c d)=decide (a<m):=by simp[AV.under]
attribute [simp] j0m c0q Xg q14 d1k M9 look put AS.putD ofConst rho R3 TI.agg Sn Ax w0d Ib Ik Nb q0l j2u g2a k2x L7 unA c06 setCells AV.cells AV.leaf AV.isTop Vx Yq bnd Mt j20 Dh d1c Q5 Js Pl Hi
 w15 w0g Mu q0k S7 Xq M4 Gl Zz Dn Zo Ar Zw As Zy Gn N8 u2y AV.withCells x0l Qt H5 q0a
 isVal Ap Jr En Se Xo Av E7 TI.zeros zeroCell Qe Value.cells z2g j2s v2j g0l k0g j0a u06 k0y f0e f1s d0r w1e x1u y11 f0c k15 y2w y1d d0k f0u z1n f0a v1j w2h k02 j09 j0s k0z g0w v1o v1y k0w g0s k0u k0n k07 k0m f0r v15 k0r g0z f0q j0j k04 d0l k0o u0n x1k g0x g0i c0n k08 k01 y17 z1j c07 u1g g1o g1r y2u g00 g0m k0c u0m j0g f0l k1c f04 w18 z1h y15 x1a u1y w2v x15 y14 d1o u0z f05 j11 O8 g0a j0z j0i j0p x1y j1i f1u x22 q2m k2j w1k d0u w1s w1f q1k j16 k1f k18 u1n j0k g0h j0o j1w j14 g2t k1n f1d w21 c0l u1x j1t z1a q11 w12 d0d d0t v1n f1n w1a x1z j1v y2j flat_agg v1x c0y g1f j1o Ni q0i v0l j03 d0y c0b g0o j0b g0y j00 u0t u0k x17 x1h Mo Xc N1 y0v Jz A6 Un
end
section
open Go.RowKit
section
variable {P:Program} [Env P] {T:TT} {nt k:Nat} {Q:Exit->AS->Prop} {S:AS}
def qa{y:Code}(hT:TOk P T){id:Nat}{l:List Oper}(hd:Uu nt l=true)(h:En P T nt k l.toArray (Se (AWP P nt k y Q) Q .normal) l S):AWP P nt k (.seq (.region id l.toArray false) y) Q S:=Eo (Ra hT hd h)
def qb(hT:TOk P T){id:Nat}{l:List Oper}(hd:Uu nt l=true)(h:En P T nt k l.toArray (Q .normal) l S):AWP P nt k (.region id l.toArray false) Q S:=Ra hT hd h
def j2b:Code->Option Exit
 | .skip=>some .normal
 | .exit id=>some (.exit id)
 | .ret=>some .ret
 |_=>none
def qh{c:Code}{e:Exit}(he:j2b c=some e)(h:Q e S):AWP P nt k c Q S:=by
 cases c<;>simp only[j2b,Option.some.injEq,reduceCtorEq]at he<;>subst he
 ·exact Uv h
 ·exact x0z h
 exact q1x h
def qf{id:Nat}{c:Code}(h:AWP P nt k c (Xo id Q) S):AWP P nt k (.block id c) Q S:=Ti h
def qg{x y:Code}(h:AWP P nt k x (Se (AWP P nt k y Q) Q) S):AWP P nt k (.seq x y) Q S:=Eo h
end
end
section
open Go.RowKit
section
variable {P:Program} [Env P] {T:TT} {nt k:Nat} {S:AS} {Q:Exit->AS->Prop}
def Yb{c:Code}(t:Nat){xs:List AV}(h:look S.sl t=some (.list xs))(hk:xs.length<=9223372036854775807->AWP P nt k c Q S):AWP P nt k c Q S:=λC a w hs=>by obtain⟨I,m,hw,z1,z6,hf⟩:=hs;obtain⟨v,_,hv⟩:=z1.2.2 t _ h;obtain⟨_,cap,_,_,_,h1,h2,_⟩:=hv.list_inv.list_inv;exact hk (by unfold maxLen at h2;omega) C a w ⟨I,m,hw,z1,z6,hf⟩
def Wd{c:Code}(t i:Nat){cs xs:List AV}(h:look S.sl t=some (.agg cs))(hi:cs[i]?=some (.list xs))(hk:xs.length<=9223372036854775807->AWP P nt k c Q S):AWP P nt k c Q S:=λC a w hs=>by
 obtain⟨I,m,hw,z6,z7,hf⟩:=hs;obtain⟨v,_,hv⟩:=z6.2.2 t _ h;obtain⟨vs,rfl,hl,z1⟩:=hv.agg_inv;have z8:i<vs.size:=by rw[hl];exact(zB.1 hi).1
 have za:=z1 i vs[i] _ (by simp[z8]) hi;obtain⟨_,cap,_,_,_,h1,h2,_⟩:=za.list_inv.list_inv;exact hk (by unfold maxLen at h2;omega) C a w ⟨I,m,hw,z6,z7,hf⟩
def Qs {c:Code} (n:Nat) (Inv:Nat->Prop) (sl:Nat->List (Nat×AV)) (H:Nat->List AObj) {z1:List (Nat×AV)} {H0 G:List AObj} (hH:H0=H 0++G) (hk:k<=(H 0).length) (h0:Av z1 (sl 0))
  (hu:(sl 0).all (λp=>p.2.under (H 0).length)=true) (z6:(H 0).all (E7 (H 0).length)=true) (hI:Inv 0)
  (h:∀j,j<=n->Inv j->(j<n->Inv (j+1)->O9 P nt k c Q ⟨sl (j+1),H (j+1)⟩)->AWP P nt k c (Se (O9 P nt k c Q) Q) ⟨sl j,H j⟩):AWP P nt k (.loop c) Q ⟨z1,H0⟩:=by
 subst hH;refine Qj (Qc (sl':=sl 0) (Z7 G ?_ hk hu z6) h0);exact Qi (F:=λj=>⟨sl j,H j⟩) (λj=>j<=n/\Inv j) (λj=>n - j) (λj hj ih=>h j hj.1 hj.2 λz7 hi=>ih (j+1) ⟨by omega,hi⟩ (by omega)) 0 ⟨Nat.zero_le _,hI⟩
end
def k0e(g:Bool)(x:AV):deref g (.opt g x)=some x:=by rw[O8];cases g<;>rfl
def j0v(g p:Bool)(x:AV):deref (g && p) (.opt g x)=some x:=by rw[O8];cases g<;>cases p<;>rfl
def j06(g p:Bool)(x:AV):deref (p && g) (.opt g x)=some x:=by rw[O8];cases g<;>cases p<;>rfl
def q07(g p q:Bool)(x:AV):deref ((g && p) && q) (.opt g x)=some x:=by rw[O8];cases g<;>cases p<;>cases q<;>rfl
attribute [simp high] k0e j0v j06 q07
end
section
open Go.RowKit
def AV.ren(s:Nat->Nat):AV->AV
 | .agg cs=> .agg (cs.attach.map λ⟨x,_⟩=>x.ren s)
 | .tup cs=> .tup (cs.attach.map λ⟨x,_⟩=>x.ren s)
 | .fn f xs ys=> .fn f (xs.attach.map λ⟨x,_⟩=>x.ren s) (ys.attach.map λ⟨x,_⟩=>x.ren s)
 | .vptr id off=> .vptr (s id) off
 | .yld id=> .yld (s id)
 | .mref id=> .mref (s id)
 | .ept id c i off=> .ept (s id) c i off
 | .sl id c lo len=> .sl (s id) c lo len
 | .opt p x=> .opt p (x.ren s)
 |x=>x
section
variable (s:Nat->Nat)
def z1z(cs:List AV):(AV.agg cs).ren s= .agg (cs.map (AV.ren s)):=by rw[AV.ren];simp
def d0x(cs:List AV):(AV.tup cs).ren s= .tup (cs.map (AV.ren s)):=by rw[AV.ren];simp
def c13(f:Fn)(xs ys:List AV):(AV.fn f xs ys).ren s= .fn f (xs.map (AV.ren s)) (ys.map (AV.ren s)):=by rw[AV.ren];simp
def y02(b:Bool):(AV.bool b).ren s= .bool b:=by simp[AV.ren]
def x11(k:IntKind)(n:Int):(AV.int k n).ren s= .int k n:=by simp[AV.ren]
def d01(x:List UInt8):(AV.str x).ren s= .str x:=by simp[AV.ren]
def x0a(x:List AV):(AV.list x).ren s= .list x:=by simp[AV.ren]
def v0c(x:List AV):(AV.iptr x).ren s= .iptr x:=by simp[AV.ren]
def v0u:(AV.nils).ren s= .nils:=by simp[AV.ren]
def v08:(AV.nilp).ren s= .nilp:=by simp[AV.ren]
def v04:(AV.nilf).ren s= .nilf:=by simp[AV.ren]
def y0l:(AV.nili).ren s= .nili:=by simp[AV.ren]
def x1l:(AV.ifc).ren s= .ifc:=by simp[AV.ren]
def y2t:(AV.top).ren s= .top:=by simp[AV.ren]
def z00(a:Nat):(AV.mref a).ren s= .mref (s a):=by simp[AV.ren]
def q1y(a:Nat):(AV.yld a).ren s= .yld (s a):=by simp[AV.ren]
def y0y(a b:Nat):(AV.vptr a b).ren s= .vptr (s a) b:=by simp[AV.ren]
def y12(a b c d:Nat):(AV.ept a b c d).ren s= .ept (s a) b c d:=by simp[AV.ren]
def q2a(a b c d:Nat):(AV.sl a b c d).ren s= .sl (s a) b c d:=by simp[AV.ren]
def w11(p:Bool)(x:AV):(AV.opt p x).ren s= .opt p (x.ren s):=by simp[AV.ren]
end
def AObj.ren(s:Nat->Nat):AObj->AObj
 | .vars cs=> .vars (cs.map (AV.ren s))
 | .arr e c xs=> .arr e c xs
 | .dead=> .dead
 | .tag id t=> .tag (s id) t
 | .lp rdy pend nt sl ps asg body=> .lp rdy pend nt (sl.map λp=>(p.1,p.2.ren s)) ps asg body
 | .mp kvs=> .mp kvs
 | .va e c xs=> .va e c (xs.map (AV.ren s))
 | .it left cur=> .it left cur
 | .fm kvs=> .fm kvs
 | .mv kvs=> .mv (kvs.map λp=>(p.1,p.2.ren s))
def Nk(s:Nat->Nat)(x:AV):(x.ren s).cells=x.cells.map (AV.ren s):=by cases x<;>simp[AV.ren,AV.cells]
def VR.ren{w:World}{I:Nat->Prop}{m:Nat->Option Nat}{n n':Nat}{s:Nat->Nat}(x:AV)(v:Value)(h:VR w I m n v (x.ren s))(hu:x.under n'=true):VR w I (λi=>m (s i)) n' v x:=by
 match x,v,h,hu with
 | .agg cs,v,h,hu=>rw[z1z]at h;rw[Ni,zW]at hu;obtain⟨vs,rfl,hl,z1⟩:=h.agg_inv;refine .agg vs cs (by simpa using hl) λi v x hv hx=>?_;have hm:=zJ hx;exact VR.ren x v (z1 i v _ hv (by simp[hx])) (hu x hm)
 | .tup cs,v,h,hu=>rw[d0x]at h;rw[q0i,zW]at hu;obtain⟨vs,rfl,hl,z1⟩:=h.tup_inv;refine .tup vs cs (by simpa using hl) λi v x hv hx=>?_;have hm:=zJ hx;exact VR.ren x v (z1 i v _ hv (by simp[hx])) (hu x hm)
 | .fn f xs ys,v,h,hu=>
  rw[c13]at h;rw[v0l,zX,zW,zW]at hu;obtain⟨vs,us,rfl,hl,z1,hl',z6⟩:=h.fn_inv;refine .fn f vs us xs ys (by simpa using hl) (λi v x hv hx=>?_) (by simpa using hl') (λi v x hv hx=>?_)
  ·have hm:=zJ hx;exact VR.ren x v (z1 i v _ hv (by simp[hx])) (hu.1 x hm)
  have hm:=zJ hx;exact VR.ren x v (z6 i v _ hv (by simp[hx])) (hu.2 x hm)
 | .bool b,v,h,_=>rw[y02]at h;rw[h.bool_inv];exact .pure (.bool b)
 | .int k z,v,h,_=>rw[x11]at h;rw[h.int_inv];exact .pure (.int k z)
 | .str x,v,h,_=>rw[d01]at h;rw[h.str_inv];exact .pure (.str x)
 | .list xs,v,h,_=>rw[x0a]at h;exact .pure h.list_inv
 | .iptr xs,v,h,_=>rw[v0c]at h;exact .pure h.iptr_inv
 | .nils,v,h,_=>rw[v0u]at h;rw[h.nils_inv];exact .pure .nils
 | .nilp,v,h,_=>rw[v08]at h;rw[h.nilp_inv];exact .pure .nilp
 | .nilf,v,h,_=>rw[v04]at h;rw[h.nilf_inv];exact .pure .nilf
 | .nili,v,h,_=>rw[y0l]at h;rw[h.nili_inv];exact .pure .nili
 | .ifc,v,h,_=>rw[x1l]at h;obtain⟨t,u,rfl⟩:=h.ifc_inv;exact .pure (.ifc t u)
 | .top,v,_,_=>exact .pure (.top v)
 | .vptr id off,v,h,hu=>rw[y0y]at h;obtain⟨b,hb,_,rfl⟩:=h.vptr_inv;exact .vptr id off b (by simpa[Xc]using hu) hb
 | .ept id c i off,v,h,hu=>rw[y12]at h;obtain⟨b,hb,_,rfl⟩:=h.ept_inv;exact .ept id c i off b (by simpa[N1]using hu) hb
 | .sl id c lo len,v,h,hu=>
  rw[q2a]at h;have hn:id<n':=by simpa[y0v]using hu
  rcases h.sl_inv with⟨b,cap,t,hb,_,hs,hl,hmax,rfl⟩|⟨hb,_,rfl,rfl,rfl⟩|⟨a,_,hlo,rfl,rfl⟩
  ·exact .sl id c lo len cap b t hn hb hs hl hmax
  ·exact .slnone id c hn hb
  exact .slend id c lo a hn hlo
 | .yld id,v,h,hu=>rw[q1y]at h;obtain⟨b,hb,_,rfl⟩:=h.yld_inv;exact .yld id b (by simpa[M9]using hu) hb
 | .mref id,v,h,hu=>rw[z00]at h;obtain⟨b,hb,_,rfl⟩:=h.mref_inv;exact .mref id b (by simpa[Xg]using hu) hb
 | .opt p x,v,h,hu=>rw[w11]at h;rw[Mo]at hu;obtain⟨h1,h2⟩:=h.opt_inv;exact .opt p x (λe=>VR.ren x v (h1 e) hu) h2
termination_by SizeOf.sizeOf x
decreasing_by all_goals (first|(have:=List.sizeOf_lt_of_mem hm;simp;omega)|(simp;omega)|simp)
def Xv(s:Nat->Nat){t:Nat}{x:AV}:∀ {sl:List (Nat×AV)},look sl t=some x->look (sl.map λp=>(p.1,p.2.ren s)) t=some (x.ren s)
 |[],hx=>by cases hx
 |(t',y)::r,hx=>by
  simp only[xA,look]at hx |-;split
  ·rename_i e;subst e;simp at hx;rw[hx]
  rename_i e;rw[if_neg e]at hx;exact Xv s hx
def rn(ix:List Nat)(i:Nat):Nat:=ix.getD i i
section
variable {P:Program} [Env P] {nt k:Nat} {Q:Exit->AS->Prop}
def St.ren {C:Cx P} {a:Act} {w:World} {sl sl':List (Nat×AV)} {H H':List AObj} (ix:List Nat) (hs:St C nt k ⟨sl,H⟩ a w)
  (h1:ix.map (λi=>H[i]?)=H'.map (λo=>some (o.ren (rn ix)))) (h2:ix.Nodup) (h3:k<=ix.length) (za:ix.take k=yR k)
  (h4:sl'.all (λp=>p.2.under H'.length)=true) (z6:H'.all (E7 H'.length)=true) (h5:Av sl (sl'.map λp=>(p.1,p.2.ren (rn ix)))):St C nt k ⟨sl',H'⟩ a w:=by
 obtain⟨I,m,hw,z7,hk,hf⟩:=hs;have hlen:H'.length=ix.length:=by have:=congrArg List.length h1;simpa using this.symm
 have z1:∀(i:Nat) (o:AObj),H'[i]?=some o->H[rn ix i]?=some (o.ren (rn ix))/\ix[i]?=some (rn ix i):=λi o ho=>by
  have hi:i<ix.length:=by have:=(zB.1 ho).1;omega
  have e1:ix[i]?=some (rn ix i):=by simp[rn,hi]
  have:=congrArg (λl=>l[i]?) h1;simp only[zU,ho,e1,wG,Option.some.injEq]at this;exact⟨this,e1⟩
 refine⟨I,λi=>m (rn ix i),⟨hw.below,hw.i0,hw.iw,λid o ho=>?_,λid o b ho hl hm=>?_,λi j oi oj b hi hj li lj mi mj=>?_⟩,⟨z7.1,z7.2.1,λt x hx=>?_⟩,by rw[hlen];exact h3,?_⟩
 ·have h6:=hw.obj _ _ (z1 id o ho).1;cases o with
  |vars cs=>obtain⟨b,t,vs,e,hh,hl,hr⟩:=h6;refine⟨b,t,vs,e,hh,by simpa using hl,λj v x hv hx=>VR.ren x v (hr j v _ hv (by simp[hx])) ?_⟩;have:=zW.1 z6 _ (zJ ho);simp only[E7,zW]at this;exact this x (zJ hx)
  |arr e c xs=>exact h6
  |va e c xs=>
   have hb:=zW.1 z6 _ (zJ ho);simp only[E7,zW]at hb;rcases h6 with⟨h7,h8⟩|⟨b,cap,vs,e1,hh,q1,q2,q3,q4,hr⟩
   ·exact .inl ⟨h7,by simpa using h8⟩
   refine .inr ⟨b,cap,vs,e1,hh,by simpa using q1,q2,q3,λx hx=>?_,λi x hx j y hy=>?_⟩
   ·have:=q4 (x.ren (rn ix)) (zO.2 ⟨x,hx,rfl⟩)
    rwa [Nk,zY]at this
   obtain⟨v,hv,hp⟩:=hr i (x.ren (rn ix)) (by rw[zU,hx];rfl) j (y.ren (rn ix)) (by rw[Nk,zU,hy];rfl);exact⟨v,hv,VR.ren y v hp (hb x (zJ hx) y (zJ hy))⟩
  |dead=>trivial
  |tag id t=>have:=zW.1 z6 _ (zJ ho);simp only[E7,decide_eq_true_eq]at this;exact⟨this,h6.2⟩
  |lp rdy pend nt sl ps asg body=>obtain⟨b,r,e,hh,q1,q2,q3,q4,q5,q6,q7⟩:=h6;refine⟨b,r,e,hh,q1,q2,q3,q4,q5,q6,λt x hx=>?_⟩;obtain⟨v,hv,hr⟩:=q7 t _ (Xv (rn ix) hx);have:=zW.1 z6 _ (zJ ho);exact⟨v,hv,VR.ren x v hr (zW.1 this _ (P7 hx))⟩
  |mp kvs=>exact h6
  |it left cur=>exact h6
  |fm kvs=>exact h6
  |mv kvs=>have hb:=zW.1 z6 _ (zJ ho);simp only[E7,zW]at hb;obtain⟨b,es,ck,e1,hh,hl,hr⟩:=h6;refine⟨b,es,ck,e1,hh,⟨by simpa using hl.size,hl.born,hl.nodup⟩,λi x p a c=>?_⟩;have:=hr i x (p.1,p.2.ren (rn ix)) a (by rw[zU,c];rfl);exact⟨this.1,VR.ren p.2 _ this.2 (hb p (zJ c))⟩
 ·exact hw.own _ _ b (z1 id o ho).1 (by cases o<;>exact hl) hm
 ·obtain⟨p1,p2⟩:=z1 i oi hi;obtain⟨q1,q2⟩:=z1 j oj hj;have:=hw.inj _ _ _ _ b p1 q1 (by cases oi<;>exact li) (by cases oj<;>exact lj) mi mj;exact(List.getElem?_inj (zB.1 p2).1 h2).1 (by rw[p2,q2,this])
 ·have z8:=P7 hx;have h6:=Xv (rn ix) hx;obtain⟨v,hv,hr⟩:=z7.2.2 t _ (Ru h5 _ _ h6);exact⟨v,hv,VR.ren x v hr (zW.1 h4 _ z8)⟩
 refine⟨⟨hf.fut.ext,λid hid=>?_,hf.fut.shape⟩,hf.defs,hf.rnd⟩;have:rn ix id=id:=by have h7:=congrArg (λl=>l[id]?) za;simp only[xR,if_pos hid]at h7;rw[up hid]at h7;simp[rn,h7]
 simp only[this];exact hf.fut.ids id hid
end
def u28(ix:List Nat)(i:Nat):rn ix i=ix.getD i i:=rfl
attribute [simp] z00 q1y z1z d0x c13 y02 x11 d01 x0a v0c v0u v08 v04 y0l x1l y2t y0y y12 q2a w11 AObj.ren u28
end
section
open Go.RowKit
section
variable {P:Program} [Env P] {T:TT} {nt k:Nat} {S:AS} {ops:Array Oper} {o:Oper} {R:AS->Prop}
def Wf(ei:TI)(xs ys:List AV):Prop:=(∀y∈ys,y.cells.length=ei.size/\y.cells.all AV.leaf=true)/\(xs.length+ys.length) * ei.bytes<=140737488355328
def X2 (hT:TOk P T) (hw:Qt ops S o=some true) {s x:Operand} {t e:TypeId} (ho:o.op= .call ⟨.builtin .append,#[s,x],#[t,t]⟩) {it ei:TI} (ht:look T t=some it) (hit:it.desc= .slice e) (he:look T e=some ei)
  (hz:ei.zero.cells.size=ei.size) (z1:0<ei.size) (z6:0<ei.bytes) {sv xv:AV} (hs:rho S.sl s=some sv) (hx:rho S.sl x=some xv) (hd:Wq nt o=true)
  (hR:match A6 S e ei.size sv,Jz S.hp xv with
   |some (xs,H1),some ys=>Wf ei xs ys/\R (({ S with hp:=H1++[.arr e ei.size (xs++ys)] }:AS).putD o.dst (.sl S.hp.length ei.size 0 (xs.length+ys.length)))
   |_,_=>False):Wb P nt k true ops o S R:=by
 cases hb:A6 S e ei.size sv with
 |none=>rw[hb]at hR;exact hR.elim
 |some p=>
  obtain⟨xs,H1⟩:=p;cases hy:Jz S.hp xv with
  |none=>rw[hb,hy]at hR;exact hR.elim
  |some ys=>rw[hb,hy]at hR;obtain⟨⟨h1,h2⟩,h3⟩:=hR;refine Bj hT hw ho ht hit he hz z1 hs hx hb hy h1 h2 ?_ hd h3;have:=Nat.le_mul_of_pos_right (xs.length+ys.length) z6;omega
end
end
section
open Go.RowKit
def AV.fz(i c:Nat)(xs:List AV):AV->AV
 | .agg cs=> .agg (cs.attach.map λ⟨x,_⟩=>x.fz i c xs)
 | .tup cs=> .tup (cs.attach.map λ⟨x,_⟩=>x.fz i c xs)
 | .fn f ys zs=> .fn f (ys.attach.map λ⟨x,_⟩=>x.fz i c xs) (zs.attach.map λ⟨x,_⟩=>x.fz i c xs)
 | .sl id c' lo len=>if id=i/\c'=c/\lo+len<=xs.length then .list ((xs.drop lo).take len)else .sl id c' lo len
 | .opt p x=> .opt p (x.fz i c xs)
 |x=>x
section
variable (i c:Nat) (xs:List AV)
def Zu(cs:List AV):(AV.agg cs).fz i c xs= .agg (cs.map (AV.fz i c xs)):=by rw[AV.fz];simp
def x10(cs:List AV):(AV.tup cs).fz i c xs= .tup (cs.map (AV.fz i c xs)):=by rw[AV.fz];simp
def x2o(f:Fn)(ys zs:List AV):(AV.fn f ys zs).fz i c xs= .fn f (ys.map (AV.fz i c xs)) (zs.map (AV.fz i c xs)):=by rw[AV.fz];simp
def z2d(b:Bool):(AV.bool b).fz i c xs= .bool b:=by simp[AV.fz]
def k2g(k:IntKind)(n:Int):(AV.int k n).fz i c xs= .int k n:=by simp[AV.fz]
def u25(x:List UInt8):(AV.str x).fz i c xs= .str x:=by simp[AV.fz]
def y1u(x:List AV):(AV.list x).fz i c xs= .list x:=by simp[AV.fz]
def x2p(x:List AV):(AV.iptr x).fz i c xs= .iptr x:=by simp[AV.fz]
def y2x:(AV.nils).fz i c xs= .nils:=by simp[AV.fz]
def q25:(AV.nilp).fz i c xs= .nilp:=by simp[AV.fz]
def w2a:(AV.nilf).fz i c xs= .nilf:=by simp[AV.fz]
def x2h:(AV.nili).fz i c xs= .nili:=by simp[AV.fz]
def u2c:(AV.ifc).fz i c xs= .ifc:=by simp[AV.fz]
def u2u:(AV.top).fz i c xs= .top:=by simp[AV.fz]
def f0p(a:Nat):(AV.mref a).fz i c xs= .mref a:=by simp[AV.fz]
def c1f(a:Nat):(AV.yld a).fz i c xs= .yld a:=by simp[AV.fz]
def f0y(a b:Nat):(AV.vptr a b).fz i c xs= .vptr a b:=by simp[AV.fz]
def c12(a b d e:Nat):(AV.ept a b d e).fz i c xs= .ept a b d e:=by simp[AV.fz]
def k1w(id c' lo len:Nat):(AV.sl id c' lo len).fz i c xs=if id=i/\c'=c/\lo+len<=xs.length then .list ((xs.drop lo).take len)else .sl id c' lo len:=by rw[AV.fz]
def c1n(p:Bool)(x:AV):(AV.opt p x).fz i c xs= .opt p (x.fz i c xs):=by simp[AV.fz]
end
def AObj.fz(i c:Nat)(xs:List AV):AObj->AObj
 | .vars cs=> .vars (cs.map (AV.fz i c xs))
 | .arr e c' ys=> .arr e c' ys
 | .dead=> .dead
 | .tag id t=> .tag id t
 | .lp rdy pend nt sl ps asg body=> .lp rdy pend nt (sl.map λp=>(p.1,p.2.fz i c xs)) ps asg body
 | .mp kvs=> .mp kvs
 | .va e c' ys=> .va e c' (ys.map (AV.fz i c xs))
 | .it left cur=> .it left cur
 | .fm kvs=> .fm kvs
 | .mv kvs=> .mv (kvs.map λp=>(p.1,p.2.fz i c xs))
def z02(i c:Nat)(xs:List AV)(x:AV):(x.fz i c xs).cells=x.cells.map (AV.fz i c xs):=by
 cases x with
 |sl a b d e=>by_cases h:a=i/\b=c/\d+e<=xs.length<;>simp[AV.fz,AV.cells,h]
 |_=>simp[AV.fz,AV.cells]
def q27{w:World}{I:Nat->Prop}{v:Value}{x:AV}(i c:Nat)(xs:List AV)(h:PVR w I v x):x.fz i c xs=x:=by
 have key:∀(vs:Array Value) (cs:List AV),vs.size=cs.length->(∀(k:Nat) (v:Value) (x:AV),vs[k]?=some v->cs[k]?=some x->x.fz i c xs=x)->cs.map (AV.fz i c xs)=cs:=λvs cs hl ih=>by
  refine xN λk=>?_;rw[zU];cases hx:cs[k]? with
  |none=>rfl
  |some x=>
   have hk:k<vs.size:=by rw[hl];exact(zB.1 hx).1
   rw[wG,ih k vs[k] x (by simp[hk]) hx]
 induction h with
 |agg vs cs hl h ih=>rw[Zu,key vs cs hl ih]
 |tup vs cs hl h ih=>rw[x10,key vs cs hl ih]
 |fn f vs us ys zs hl h hl' h' ih ih'=>rw[x2o,key vs ys hl ih,key us zs hl' ih']
 |_=>simp[AV.fz]
section
variable {P:Program} [Env P] {nt k:Nat} {Q:Exit->AS->Prop} {W0 w:World} {I0 I:Nat->Prop} {m:Nat->Option Nat} {H:List AObj}
def VR.fz(hw:WS W0 I0 w I m H){i e c:Nat}{xs:List AV}(hi:H[i]?=some (.arr e c xs)){v:Value}{x:AV}(h:VR w I m H.length v x):
  VR w (λb=>I b\/m i=some b) m H.length v (x.fz i c xs):=by
 have z6:Ext w w I (λb=>I b\/m i=some b):=⟨λ_ h=> .inl h,λ_ _=>rfl⟩
 have z8:i<H.length:=(zB.1 hi).1
 -- the other objects set aside
 have z1:∀(id:Nat) (o:AObj),((yI H.length AObj.dead).set i (.arr e c xs))[id]?=some o->(id=i/\o= .arr e c xs)\/o= .dead:=λid o ho=>by
  by_cases hid:id=i
  ·subst hid;rw[zL (by simpa using z8)]at ho;exact .inl ⟨rfl,(Option.some.inj ho).symm⟩
  rw[zE (by omega),List.getElem?_replicate]at ho;split at ho
  ·exact .inr (Option.some.inj ho).symm
  cases ho
 have za:WS W0 I0 w I m ((yI H.length AObj.dead).set i (.arr e c xs)):=by
  refine⟨hw.below,hw.i0,hw.iw,λid o ho=>?_,λid o b ho hl hm=>?_,λa b oa ob d ha hb la lb ma mb=>?_⟩
  ·rcases z1 id o ho with⟨rfl,rfl⟩|rfl
   ·have:=hw.obj _ _ hi;simpa using this
   trivial
  ·rcases z1 id o ho with⟨rfl,rfl⟩|rfl
   ·exact hw.own _ _ b hi rfl hm
   cases hl
  rcases z1 a oa ha with⟨rfl,rfl⟩|rfl
  ·rcases z1 b ob hb with⟨rfl,rfl⟩|rfl
   ·rfl
   cases lb
  cases la
 have z7:∀b,g08 I m ((yI H.length AObj.dead).set i (.arr e c xs)) b->I b\/m i=some b:=λb hb=>by
  rcases hb with hb|⟨id,o,ho,hl,hm⟩
  ·exact .inl hb
  rcases z1 id o ho with⟨rfl,rfl⟩|rfl
  ·exact .inr hm
  cases hl
 induction h with
 |pure h=>rw[q27 i c xs h];exact .pure (h.mono z6)
 |agg vs cs hl h ih=>rw[Zu];refine .agg vs _ (by simpa using hl) λj v x hv hx=>?_;rw[zU]at hx;obtain⟨y,hy,rfl⟩:=zS.1 hx;exact ih j v y hv hy
 |tup vs cs hl h ih=>rw[x10];refine .tup vs _ (by simpa using hl) λj v x hv hx=>?_;rw[zU]at hx;obtain⟨y,hy,rfl⟩:=zS.1 hx;exact ih j v y hv hy
 |fn f vs us ys zs hl h hl' h' ih ih'=>
  rw[x2o];refine .fn f vs us _ _ (by simpa using hl) (λj v x hv hx=>?_) (by simpa using hl') (λj v x hv hx=>?_)
  ·rw[zU]at hx;obtain⟨y,hy,rfl⟩:=zS.1 hx;exact ih j v y hv hy
  rw[zU]at hx;obtain⟨y,hy,rfl⟩:=zS.1 hx;exact ih' j v y hv hy
 |vptr id off b hn hb=>rw[f0y];exact .vptr id off b hn hb
 |ept id c' j off b hn hb=>rw[c12];exact .ept id c' j off b hn hb
 |yld id b hn hb=>rw[c1f];exact .yld id b hn hb
 |mref id b hn hb=>rw[f0p];exact .mref id b hn hb
 |opt p x h1 h2 ih=>rw[c1n];exact .opt p _ ih h2
 |sl id c' lo len cap b t hn hb hs hl hmax=>
  rw[k1w];have hv:VR w I m H.length _ _:= .sl id c' lo len cap b t hn hb hs hl hmax;split
  ·rename_i hc;obtain⟨rfl,rfl,zb⟩:=hc;have:=A8 za (by simpa using hv) (y:= .list ((xs.drop lo).take len)) (by simp[Wm,zL,z8,zb]);exact .pure (this.mono ⟨z7,λ_ _=>rfl⟩)
  exact .sl id c' lo len cap b t hn hb hs hl hmax
 |slnone id c' hn hb=>
  rw[k1w];split
  ·refine .pure ?_;simp only[List.drop_zero,wp];exact .list _ _ _ 0 _ (λ_ _=>undef) rfl (by simp) (by unfold maxLen;omega) (λx hx=>by simp at hx) (λh0=>by simp at h0) (λi x hx=>by simp at hx)
  exact .slnone id c' hn hb
 |slend id c' lo a hn hlo=>
  rw[k1w];split
  ·refine .pure ?_;simp only[wp];exact .list _ _ _ 0 _ (λ_ _=>undef) rfl (by simp) (by unfold maxLen;omega) (λx hx=>by simp at hx) (λh0=>by simp at h0) (λi x hx=>by simp at hx)
  exact .slend id c' lo a hn hlo
def Fj{i c:Nat}{xs:List AV}{t:Nat}{x:AV}:∀ {sl:List (Nat×AV)},look (sl.map λp=>(p.1,p.2.fz i c xs)) t=some x->∃y,look sl t=some y/\x=y.fz i c xs
 |[],hx=>by cases hx
 |(t',y)::r,hx=>by
  simp only[xA,look]at hx |-;split
  ·rename_i e;subst e;simp at hx;exact⟨y,rfl,hx.symm⟩
  rename_i e;rw[if_neg e]at hx;exact Fj hx
def U4.fz(hw:WS W0 I0 w I m H){i e c:Nat}{xs:List AV}(hi:H[i]?=some (.arr e c xs)){b? :Option Nat}{o:AObj}(h:U4 w I m H.length b? o):
  U4 w (λb=>I b\/m i=some b) m H.length b? (o.fz i c xs):=by
 have z1:Ext w w I (λb=>I b\/m i=some b):=⟨λ_ h=> .inl h,λ_ _=>rfl⟩
 cases o with
 |vars cs=>obtain⟨b,t,vs,e1,hh,hl,hr⟩:=h;refine⟨b,t,vs,e1,hh,by simpa using hl,λj v x hv hx=>?_⟩;rw[zU]at hx;obtain⟨y,hy,rfl⟩:=zS.1 hx;exact(hr j v y hv hy).fz hw hi
 |arr e' c' ys=>
  rcases h with h|⟨b,cap,vs,e1,hh,h1,h2,h3,h4,hr⟩
  ·exact .inl h
  exact .inr ⟨b,cap,vs,e1,hh,h1,h2,h3,h4,λi x hx j y hy=>by obtain⟨v,hv,hp⟩:=hr i x hx j y hy;exact⟨v,hv,hp.mono z1⟩⟩
 |it left cur=>obtain⟨r,bm,es,ck,since,seen,c0,e1,hh,hI,hm,h1,h2,h3,h4,h5,hr,z6⟩:=h;exact⟨r,bm,es,ck,since,seen,c0,e1,hh,.inl hI,hm,h1,h2,h3,h4,h5,λi x p a d=>⟨(hr i x p a d).1.mono z1,(hr i x p a d).2.mono z1⟩,λp hp=>by obtain⟨e2,sn,q1,q2,q3,q4,q5⟩:=z6 p hp;exact⟨e2,sn,q1,q2,q3,q4.mono z1,q5.mono z1⟩⟩
 |va e' c' ys=>
  rcases h with⟨h7,h8⟩|⟨b,cap,vs,e1,hh,h1,h2,h3,h4,hr⟩
  ·exact .inl ⟨h7,by rw[h8];rfl⟩
  refine .inr ⟨b,cap,vs,e1,hh,by simpa using h1,h2,h3,λx hx=>?_,λk x hx j y hy=>?_⟩
  ·obtain⟨z,hz,rfl⟩:=zO.1 hx;rw[z02,zY];exact h4 z hz
  rw[zU]at hx;obtain⟨z,hz,rfl⟩:=zS.1 hx;rw[z02,zU]at hy;obtain⟨u,hu,rfl⟩:=zS.1 hy;obtain⟨v,hv,hp⟩:=hr k z hz j u hu;exact⟨v,hv,hp.fz hw hi⟩
 |dead=>trivial
 |fm kvs=>obtain⟨b,es,ck,e1,hI,hh,hl,hr⟩:=h;exact⟨b,es,ck,e1,.inl hI,hh,hl,λi x p a d=>⟨(hr i x p a d).1.mono z1,(hr i x p a d).2.mono z1⟩⟩
 |tag j t=>exact h
 |lp rdy pend nt sl ps asg body=>obtain⟨b,r,e1,hh,q1,q2,q3,q4,q5,q6,q7⟩:=h;refine⟨b,r,e1,hh,q1,q2,q3,q4,q5,q6,λt x hx=>?_⟩;obtain⟨y,hy,rfl⟩:=Fj hx;obtain⟨v,hv,hr⟩:=q7 t y hy;exact⟨v,hv,hr.fz hw hi⟩
 |mp kvs=>obtain⟨b,es,ck,e1,hh,hl,hr⟩:=h;exact⟨b,es,ck,e1,hh,hl,λi x p a d=>⟨(hr i x p a d).1.mono z1,(hr i x p a d).2.mono z1⟩⟩
 |mv kvs=>obtain⟨b,es,ck,e1,hh,hl,hr⟩:=h;refine⟨b,es,ck,e1,hh,⟨by simpa using hl.size,hl.born,hl.nodup⟩,λi x p a d=>?_⟩;rw[zU]at d;obtain⟨q,hq,rfl⟩:=zS.1 d;exact⟨(hr i x q a hq).1.mono z1,(hr i x q a hq).2.fz hw hi⟩
def St.freeze{C:Cx P}{a:Act}{w:World}{sl:List (Nat×AV)}{H:List AObj}(hs:St C nt k ⟨sl,H⟩ a w)(i:Nat){e c:Nat}{xs:List AV}(hi:H[i]?=some (.arr e c xs)):
  St C nt k ⟨sl.map λp=>(p.1,p.2.fz i c xs),(H.set i .dead).map (AObj.fz i c xs)⟩ a w:=by
 obtain⟨I,m,hw,z7,hk,hf⟩:=hs;have z8:Ext w w I (λb=>I b\/m i=some b):=⟨λ_ h=> .inl h,λ_ _=>rfl⟩
 have hlen:((H.set i .dead).map (AObj.fz i c xs)).length=H.length:=by simp
 have z6:∀(id:Nat) (o:AObj),((H.set i .dead).map (AObj.fz i c xs))[id]?=some o->o.live=true->id≠i/\∃o',H[id]?=some o'/\o=o'.fz i c xs/\o'.live=true:=λid o ho hl=>by
  rw[zU]at ho;obtain⟨o',z1,rfl⟩:=zS.1 ho;by_cases hid:id=i
  ·subst hid;rw[zL (zB.1 hi).1]at z1;cases z1;simp[AObj.fz,AObj.live]at hl
  rw[zE (by omega)]at z1;exact⟨hid,o',z1,rfl,by cases o'<;>exact hl⟩
 refine⟨λb=>I b\/m i=some b,m,⟨hw.below,λb hb=> .inl (hw.i0 b hb),λb hb=>?_,λid o ho=>?_,λid o b ho hl hm=>?_,λa b oa ob d ha hb la lb ma mb=>?_⟩,⟨z7.1,z7.2.1,λt x hx=>?_⟩,by rw[hlen];exact hk,hf.trans hk ⟨z8,λ_ _=>rfl,λ_ _ h=>h⟩⟩
 ·rcases hb with hb|hb
  ·exact hw.iw b hb
  have:=hw.own i _ b hi rfl hb;exact⟨this.2.2,.inr this.1⟩
 ·rw[hlen];by_cases hl:o.live=true
  ·obtain⟨_,o',z1,rfl,_⟩:=z6 id o ho hl;exact(hw.obj id o' z1).fz hw hi
  rw[zU]at ho;obtain⟨o',z1,rfl⟩:=zS.1 ho;by_cases hid:id=i
  ·subst hid;rw[zL (zB.1 hi).1]at z1;cases z1;trivial
  rw[zE (by omega)]at z1;cases o' with
  |vars cs=>exact absurd rfl hl
  |arr e c xs=>exact absurd rfl hl
  |dead=>trivial
  |tag j t=>exact hw.obj id _ z1
  |lp rdy pend nt sl ps asg body=>exact absurd rfl hl
  |mp kvs=>exact absurd rfl hl
  |va e c xs=>exact absurd rfl hl
  |it left cur=>exact absurd rfl hl
  |fm kvs=>exact(hw.obj id _ z1).fz hw hi
  |mv kvs=>exact absurd rfl hl
 ·obtain⟨za,o',z1,rfl,hl'⟩:=z6 id o ho hl;have h1:=hw.own id o' b z1 hl' hm;refine⟨h1.1,λhc=>?_,h1.2.2⟩;rcases hc with hc|hc
  ·exact h1.2.1 hc
  exact za (hw.inj id i o' _ b z1 hi hl' rfl hm hc)
 ·obtain⟨_,zb,zc,_,zd⟩:=z6 a oa ha la;obtain⟨_,ze,zf,_,zg⟩:=z6 b ob hb lb;exact hw.inj a b zb ze d zc zf zd zg ma mb
 rw[hlen];have:=Fj hx;obtain⟨y,hy,rfl⟩:=this;obtain⟨v,hv,hr⟩:=z7.2.2 t y hy;exact⟨v,hv,hr.fz hw hi⟩
def Pn{wr:Bool}{ops:Array Oper}{o:Oper}{R:AS->Prop}{sl:List (Nat×AV)}{H:List AObj}(i:Nat){e c:Nat}{xs:List AV}(hi:H[i]?=some (.arr e c xs))(h:Wb P nt k wr ops o ⟨sl.map λp=>(p.1,p.2.fz i c xs),(H.set i .dead).map (AObj.fz i c xs)⟩ R):Wb P nt k wr ops o ⟨sl,H⟩ R:=
 λC a w K Q hs=>h C a w K Q (hs.freeze i hi)
end
attribute [simp] f0p c1f Zu x10 x2o z2d k2g u25 y1u x2p y2x q25 w2a x2h u2c u2u f0y c12 k1w c1n AObj.fz
end
section
open Go.RowKit
section
variable {P:Program} [Env P] {T:TT} {nt k:Nat} {S:AS} {ops:Array Oper} {o:Oper} {R:AS->Prop}
def H6 (hT:TOk P T) {wr:Bool} (hw:Qt ops S o=some true) {t u e:TypeId} {x:Operand} (ho:o.op= .binOp .eql t x (.const (.slice none 0 0)) u) {it:TI} (ht:look T t=some it) (hit:it.desc= .slice e)
  {xs:List AV} (hx:rho S.sl x=some (.list xs)) (hd:Wq nt o=true) (hR:∀b,(xs≠[]->b=false)->R (S.putD o.dst (.bool b))):Wb P nt k wr ops o S R:=λC a w K Q hs hK=>by
 unfold OpW;rw[if_pos (hs.wanted hw)];obtain⟨I,m,z8,z6,hk,hE⟩:=hs;obtain⟨ad,cap,c,uu,hv,h1,h2,h3,h4,h5⟩:=(Qr z6 hx).list_inv.list_inv;have z7:=hT.und ht;rw[hit]at z7;have z1:(execOp a.eval o).run P w= .ok (.value (.bool ad.isNone)) w:=by have:=Go.Lib.run_eql_slice_nil (P:=P) w t e ad xs.length cap 0 0 z7;have hc:a.eval (.const (.slice none 0 0))= .slice none 0 0:=rfl;simp[execOp,ho,hv,eqGuard,hc,this]
 unfold wpA;rw[z1];refine hK _ _ w (hR ad.isNone λza=>?_) (St.value z6 hk hE z8 (Fut.refl _ _ _ _) (zQ _) (Qo hd) (.pure (.bool _))) (λ_=>Tl.refl w);obtain⟨zb,rfl,_⟩:=h4 (List.length_pos_iff.2 za);rfl
end
end
section
open Go.RowKit
inductive Plan where
 |done
 |val (i:Nat) (p:Plan)
 |one (i:Nat) (p:Plan)
 |two (i:Nat) (p:Plan) (j:Nat) (q:Plan)
def Plan.size:Plan->Nat
 | .done=>0
 | .val _ p=>p.size+1
 | .one _ p=>p.size+1
 | .two _ p _ _=>p.size+1
def Lj(ops:Array Oper)(cl:List (List Nat))(Wr:List Nat):Plan->Array Bool->Bool
 | .done,l=>(Region.ready .any ops l).isEmpty
 | .val i p,l=>(match ops[i]? with
   |none=>false
   |some o=>isVal o.op && x0c ops cl Wr l i && (Region.ready .any ops l).contains i) && Lj ops cl Wr p (l.setIfInBounds i true)
 | .one i p,l=>(ops[i]?).isSome && Region.ready .any ops l==[i] && Lj ops cl Wr p (l.setIfInBounds i true)
 | .two i p j q,l=>(ops[i]?).isSome && (ops[j]?).isSome && Region.ready .any ops l==[i,j] && p.size==q.size && Lj ops cl Wr p (l.setIfInBounds i true) && Lj ops cl Wr q (l.setIfInBounds j true)
def stepT(P:Program)[Env P](T:TT)(nt k:Nat)(ops:Array Oper)(W:Nat->Bool)(i:Nat)(R:AS->Prop)(S:AS):Prop:=match ops[i]? with
 |none=>False
 |some o=>if Ap o.op then(match H5 T ops S o with
   |some S'=>(Jr o.op=true->W i=true)/\R S'
   |none=>False)
  else Wb P nt k (W i) ops o S R
def Td(P:Program)[Env P](T:TT)(nt k:Nat)(ops:Array Oper)(W:Nat->Bool)(i:Nat)(R:AS->Prop)(S:AS):Prop:=match ops[i]? with
 |none=>False
 |some o=>if Ap o.op then(match H5 T ops S o with
   |some S'=>(Jr o.op=true->W i=true)/\R S'
   |none=>Wb P nt k (W i) ops o S R)
  else Wb P nt k (W i) ops o S R
def Mx(P:Program)[Env P](T:TT)(nt k:Nat)(ops:Array Oper)(W:Nat->Bool)(Q:AS->Prop):Plan->AS->Prop
 | .done,S=>Q S
 | .val i p,S=>stepT P T nt k ops W i (Mx P T nt k ops W Q p) S
 | .one i p,S=>Td P T nt k ops W i (Mx P T nt k ops W Q p) S
 | .two i p j q,S=>Td P T nt k ops W i (Mx P T nt k ops W Q p) S/\Td P T nt k ops W j (Mx P T nt k ops W Q q) S
section
variable {P:Program} [Env P] {T:TT} {nt k:Nat} {S:AS} {ops:Array Oper} {o:Oper} {R:AS->Prop} {Wr:List Nat}
def Rm (hT:TOk P T) {C:Cx P} (hd:Uu nt ops.toList=true) {i:Nat} {R':AS->Prop} {N:Act->World->Prop} {a:Act} {w:World} (h:Td P T nt k ops Wr.contains i R' S) (hs:St C nt k S a w)
  (hN:∀S' a' w',R' S'->St C nt k S' a' w'->N a' w'):Fq P ops (d1i C nt k R) i (λa' w'=>(Wr.contains i=false->Tl w w')/\N a' w') a w:=by
 unfold Td at h;cases ho:ops[i]? with
 |none=>rw[ho]at h;exact h.elim
 |some o=>
  rw[ho]at h;simp only at h;have z1:Wq nt o=true:=zW.1 hd o (by simpa using ul ho);have key:Wb P nt k (Wr.contains i) ops o S R':=by
   split at h
   ·split at h
    ·rename_i S' z6;exact Z9 hT z6 z1 h.1 (by assumption) h.2
    exact h
   exact h
  have:=key C a w (λa' w'=>(Wr.contains i=false->Tl w w')/\N a' w') (d1i C nt k R) hs (λS' a' w' hR z7 hh=>⟨hh,hN S' a' w' hR z7⟩);unfold Fq;rw[ho];exact this
def O7(hT:TOk P T){C:Cx P}(hd:Uu nt ops.toList=true)(z8:Region.noSelect ops=true):∀(p:Plan) (listed:Array Bool) (S:AS) (a:Act) (w:World),Pd ops listed->Lj ops (Ij ops.toList []) Wr p listed=true->Mx P T nt k ops Wr.contains R p S->St C nt k S a w->
  Xa P ops Wr (d1i C nt k R) p.size listed a w
 | .done,listed,S,a,w,_,hp,h,hs=>⟨by simpa[Lj]using hp,S,h,hs⟩
 | .val i p,listed,S,a,w,z6,hp,h,hs=>by
  unfold Lj at hp;unfold Mx stepT at h;rw[zX]at hp;obtain⟨zb,za⟩:=hp;cases ho:ops[i]? with
  |none=>rw[ho]at h;exact h.elim
  |some o=>
   rw[ho]at h zb;simp only at h zb;have zc:Wq nt o=true:=zW.1 hd o (by simpa using ul ho);simp only[zX]at zb;obtain⟨⟨hv,hf⟩,hr⟩:=zb;have zd:Ap o.op=true:=by cases hop:o.op<;>rw[hop]at hv<;>first|rfl|exact hv|(simp[isVal]at hv)
   rw[if_pos zd]at h;have z1:i∈Region.ready .any ops listed:=by simpa using hr
   split at h
   ·rename_i S' ze;obtain⟨v,hy,z7⟩:=hs.yields hT zc hv ze;exact Gd ho (Region.noSelect_spec z8) (λc a w hq=>hq) (λx y=>Uw o.op=true->Tl x y) (λw _=>Tl.refl w) (λx y z h1 h2 hr=>(h1 hr).trans (h2 hr)) p.size listed a w
     (λj oj hj zf zg zh=>x02 ho hf j oj hj zf zg zh) z6 z1 hy (O7 hT hd z8 p _ S' _ w (z6.set z1) za h.2 z7)
   exact h.elim
 | .one i p,listed,S,a,w,z6,hp,h,hs=>by
  unfold Lj at hp;simp only[zX,beq_iff_eq]at hp;obtain⟨⟨_,z1⟩,za⟩:=hp;have zi:i∈Region.ready .any ops listed:=by rw[z1];simp
  refine⟨λh0=>(by rw[z1]at h0;cases h0),λj hj=>?_⟩;rw[z1]at hj;obtain rfl:j=i:=by simpa using hj
  exact Rm hT hd h hs λS' a' w' hR z7=>O7 hT hd z8 p _ S' a' w' (z6.set zi) za hR z7
 | .two i p j q,listed,S,a,w,z6,hp,h,hs=>by
  unfold Lj at hp;simp only[zX,beq_iff_eq]at hp;obtain⟨⟨⟨⟨_,z1⟩,zj⟩,za⟩,zk⟩:=hp;have zl:i∈Region.ready .any ops listed:=by rw[z1];simp
  have zm:j∈Region.ready .any ops listed:=by rw[z1];simp
  refine⟨λh0=>(by rw[z1]at h0;cases h0),λm hm=>?_⟩;rw[z1]at hm;rcases(by simpa using hm:m=i\/m=j)with rfl|rfl
  ·exact Rm hT hd h.1 hs λS' a' w' hR z7=>O7 hT hd z8 p _ S' a' w' (z6.set zl) za hR z7
  refine Rm hT hd h.2 hs λS' a' w' hR z7=>?_;have:=O7 hT hd z8 q _ S' a' w' (z6.set zm) zk hR z7;rw[<-zj]at this;exact this
def Ql (hT:TOk P T) (hm:P.follows .mixedOrders=true) {Q:Exit->AS->Prop} {id:Nat} {l:List Oper} (Wr:List Nat) (p:Plan) (hd:Uu nt l=true)
  (hp:(Region.noSelect l.toArray && p.size==l.length && Lj l.toArray (Ij l []) Wr p (u4 l.length false))=true)
  (h:Mx P T nt k l.toArray Wr.contains (Q .normal) p S):AWP P nt k (.region id l.toArray true) Q S:=λC a w hs=>by
 simp only[zX,beq_iff_eq]at hp;obtain⟨⟨h1,h2⟩,h3⟩:=hp;refine X5 (wpIn_region_any hm (Ft (Wr:=Wr) _ _ _ _ ?_));have z8:St C nt k S a { w with drawn:=w.drawn+1 }:=by
  obtain⟨I,m,hw,z1,hk,hE⟩:=hs;have hb:Below w.heap.size w { w with drawn:=w.drawn+1 }:=⟨rfl,rfl,rfl,zQ _,λ_ _=>rfl⟩
  obtain⟨g1,g2⟩:=hw.step hb (λ_ h=>h) (λb z6=>⟨(hw.iw b z6).1,.inl z6⟩);exact⟨I,m,g1,⟨z1.1,z1.2.1,λt x hx=>by obtain⟨v,hv,hr⟩:=z1.2.2 t x hx;exact⟨v,hv,hr.mono g2 (zQ _)⟩⟩,hk,hE.trans hk g2⟩
 have:=O7 hT (C:=C) (nt:=nt) (k:=k) (R:=Q .normal) (by simpa using hd) h1 p (u4 l.length false) S a _ (λj o ho hj=>by
  have z7:=(yQ.1 ho).1;simp at z7;simp[z7]at hj) (by simpa using h3) h z8
 rw[h2]at this;simpa using this
end
attribute [simp] Mx stepT Td
end
section
open Go.RowKit
section
variable {P:Program} [Env P] {T:TT} {nt k:Nat} {S:AS} {ops:Array Oper} {o:Oper} {R:AS->Prop}
end
end
section
open Go.RowKit
section
variable {P:Program} [Env P] {T:TT} {nt k:Nat} {S:AS} {ops:Array Oper} {o:Oper} {R:AS->Prop}
end
end
section
open Go.RowKit
section
variable {P:Program} [Env P] {T:TT} {nt k:Nat} {S:AS} {ops:Array Oper} {o:Oper} {R:AS->Prop} {Q:Exit->AS->Prop}
def q29{w:World}{t e:TypeId}{ty:TypeId}(z1:P.underlying t=some (.slice e))(a:Option Addr)(n c:Nat):(Builtin.cap_ #[t] ty #[.slice a n c]).run P w= .ok (goInt c) w:=by simp[Builtin.cap_,run_underlying z1]
end
end
section
open Go.RowKit
section
variable {P:Program} [Env P] {T:TT} {nt k:Nat} {S:AS} {ops:Array Oper} {o:Oper} {R:AS->Prop} {Q:Exit->AS->Prop}
end
end
section
open Go.RowKit
section
variable {P:Program} [Env P] {T:TT} {nt k:Nat} {S:AS} {ops:Array Oper} {o:Oper} {R:AS->Prop} {Q:Exit->AS->Prop}
end
end
section
open Go.RowKit
section
variable {P:Program} [Env P] {T:TT} {nt k:Nat} {S:AS} {ops:Array Oper} {o:Oper} {R:AS->Prop} {Q:Exit->AS->Prop}
end
end
section
open Go.RowKit
section
variable {P:Program} [Env P] {T:TT} {nt k:Nat} {S:AS} {ops:Array Oper} {o:Oper} {R:AS->Prop}
@[simp] theorem valA_slice3 (T:TT) (S:AS) (g:Bool) (t:TypeId) (x:Operand) (lo hi:Option Operand) (mx:Operand):Gu T S g (.slice t x lo hi (some mx))=none:=rfl
end
end
section
open Go.RowKit
def AV.fv(i:Nat)(xs:List AV):AV->AV
 | .agg cs=> .agg (cs.attach.map λ⟨x,_⟩=>x.fv i xs)
 | .tup cs=> .tup (cs.attach.map λ⟨x,_⟩=>x.fv i xs)
 | .fn f ys zs=> .fn f (ys.attach.map λ⟨x,_⟩=>x.fv i xs) (zs.attach.map λ⟨x,_⟩=>x.fv i xs)
 | .vptr id off=>if id=i then .iptr (xs.drop off)else .vptr id off
 | .opt p x=> .opt p (x.fv i xs)
 |x=>x
section
variable (i:Nat) (xs:List AV)
def k22(cs:List AV):(AV.agg cs).fv i xs= .agg (cs.map (AV.fv i xs)):=by rw[AV.fv];simp
def k2m(cs:List AV):(AV.tup cs).fv i xs= .tup (cs.map (AV.fv i xs)):=by rw[AV.fv];simp
def g2k(f:Fn)(ys zs:List AV):(AV.fn f ys zs).fv i xs= .fn f (ys.map (AV.fv i xs)) (zs.map (AV.fv i xs)):=by rw[AV.fv];simp
def w2l(b:Bool):(AV.bool b).fv i xs= .bool b:=by simp[AV.fv]
def k2r(k:IntKind)(n:Int):(AV.int k n).fv i xs= .int k n:=by simp[AV.fv]
def k2d(x:List UInt8):(AV.str x).fv i xs= .str x:=by simp[AV.fv]
def y21(x:List AV):(AV.list x).fv i xs= .list x:=by simp[AV.fv]
def q23(x:List AV):(AV.iptr x).fv i xs= .iptr x:=by simp[AV.fv]
def y2p:(AV.nils).fv i xs= .nils:=by simp[AV.fv]
def x2w:(AV.nilp).fv i xs= .nilp:=by simp[AV.fv]
def x2i:(AV.nilf).fv i xs= .nilf:=by simp[AV.fv]
def q2f:(AV.nili).fv i xs= .nili:=by simp[AV.fv]
def j2f:(AV.ifc).fv i xs= .ifc:=by simp[AV.fv]
def u2w:(AV.top).fv i xs= .top:=by simp[AV.fv]
def f2o(a b d e:Nat):(AV.sl a b d e).fv i xs= .sl a b d e:=by simp[AV.fv]
def k2k(a b d e:Nat):(AV.ept a b d e).fv i xs= .ept a b d e:=by simp[AV.fv]
def w2z(a:Nat):(AV.mref a).fv i xs= .mref a:=by simp[AV.fv]
def k2n(a:Nat):(AV.yld a).fv i xs= .yld a:=by simp[AV.fv]
def w2r(id off:Nat):(AV.vptr id off).fv i xs=if id=i then .iptr (xs.drop off)else .vptr id off:=by rw[AV.fv]
def k2p(p:Bool)(x:AV):(AV.opt p x).fv i xs= .opt p (x.fv i xs):=by simp[AV.fv]
end
def AObj.fv(i:Nat)(xs:List AV):AObj->AObj
 | .vars cs=> .vars (cs.map (AV.fv i xs))
 | .arr e c' ys=> .arr e c' ys
 | .dead=> .dead
 | .tag id t=> .tag id t
 | .lp rdy pend nt sl ps asg body=> .lp rdy pend nt (sl.map λp=>(p.1,p.2.fv i xs)) ps asg body
 | .mp kvs=> .mp kvs
 | .va e c' ys=> .va e c' (ys.map (AV.fv i xs))
 | .it left cur=> .it left cur
 | .fm kvs=> .fm kvs
 | .mv kvs=> .mv (kvs.map λp=>(p.1,p.2.fv i xs))
section
variable {P:Program} [Env P] {nt k:Nat} {Q:Exit->AS->Prop} {W0 w:World} {I0 I:Nat->Prop} {m:Nat->Option Nat} {H:List AObj}
end
attribute [simp] w2z k2n k22 k2m g2k w2l k2r k2d y21 q23 y2p x2w x2i q2f j2f u2w w2r k2k f2o k2p AObj.fv
end
section
open Go.RowKit Go.ChangeShapes Go.WideShapes
section
variable {H:Type} {enc:TypeId×Value->H} {P:Program} [Env P] {T:TT} {W:World}
def TOk.cellsOf(hT:TOk P T){t:TypeId}{i:TI}(h:look T t=some i):P.cellsOf t=i.size:=by obtain⟨j,hj,_,hs,_⟩:=TOk.info hT h;simp[Program.cellsOf,hj,hs]
def TOk.bytesOf(hT:TOk P T){t:TypeId}{i:TI}(h:look T t=some i):P.bytesOf t=i.bytes:=by obtain⟨j,hj,_,_,hs⟩:=TOk.info hT h;simp[Program.bytesOf,hj,hs]
def v1d(i:TI)(zs:List AV):AV:=if i.agg then .agg zs else zs.headD .top
def c1c(R:TypeId->List AV->Prop):List TypeId->List AV->Prop
 |[],ys=>ys=[]
 |t::ts,ys=>∃zs rest,ys=zs++rest/\R t zs/\c1c R ts rest
def f2e(R:List AV->Prop):Nat->List AV->Prop
 |0,ys=>ys=[]
 |n+1,ys=>∃zs rest,ys=zs++rest/\R zs/\f2e R n rest
def Mn(T:TT)(R:TypeId->List AV->Prop)(i:TI)(ys:List AV):Prop:=match i.desc with
 | .bool=>∃b,ys=[.bool b]
 | .int k=>∃n,ys=[.int k n]/\k.min<=n/\n<=k.max
 | .string=>∃s:List UInt8,ys=[.str s]/\s.length<=reachBytes
 | .slice e=>∃ei xs,look T e=some ei/\ys=[.list xs]/\xs.length * ei.bytes<=reachBytes/\∀x∈xs,∃zs,x=v1d ei zs/\R e zs
 | .struct fs=>c1c R (fs.toList.map (·.type)) ys
 | .array n e=>f2e (R e) n ys
 |_=>False
def Shp(T:TT):Nat->TypeId->List AV->Prop
 |0,_,_=>False
 |d+1,t,ys=>match look T t with
  |some i=>Mn T (Shp T d) i ys
  |none=>False
def Bg(T:TT):List Field->Nat->Nat->Bool
 |[],off,size=>off==size
 |f::fs,off,size=>f.offset==off && (match look T f.type with
  |some i=>Bg T fs (off+i.size) size
  |none=>false)
def O6(T:TT):Nat->TypeId->Bool
 |0,_=>false
 |d+1,t=>match look T t with
  |some i=>match i.desc with
   | .bool| .int _| .string=>i.size==1
   | .slice e=>i.size==1 && O6 T d e && (match look T e with
    |some ei=>(ei.agg || ei.size==1) && decide (0<ei.size)
    |none=>false)
   | .struct fs=>Bg T fs.toList 0 i.size && fs.toList.all λf=>O6 T d f.type
   | .array n e=>O6 T d e && (match look T e with
    |some ei=>i.size==n * ei.size
    |none=>false)
   |_=>false
  |none=>false
def Am(W:World)(cs:List Value)(ys:List AV):Prop:=cs.length=ys.length/\∀(j:Nat) (v:Value) (y:AV),cs[j]?=some v->ys[j]?=some y->PVR W (·<W.heap.size) v y
def Am.one{v:Value}{y:AV}(h:PVR W (·<W.heap.size) v y):Am W [v] [y]:=by
 refine⟨rfl,λj u z hu hz=>?_⟩;rcases j with _|j
 ·simp only[wD,Option.some.injEq]at hu hz;subst hu;subst hz;exact h
 simp at hu
def Am.app{cs cs':List Value}{ys ys':List AV}(h:Am W cs ys)(h':Am W cs' ys'):Am W (cs++cs') (ys++ys'):=by
 refine⟨by simp[h.1,h'.1],λj u z hu hz=>?_⟩;rw[List.getElem?_append]at hu hz;rw[h.1]at hu;split at hu
 ·rename_i hj;rw[if_pos hj]at hz;exact h.2 j u z hu hz
 rename_i hj;rw[if_neg hj]at hz;exact h'.2 _ u z hu hz
def U1{α β:Type}{f:α->Option β}{a:α}{l:List α}{r:List β}(h:(a::l).mapM f=some r):∃b bs,f a=some b/\l.mapM f=some bs/\r=b::bs:=by rw[List.mapM_cons]at h;simp only[Option.pure_def,Option.bind_eq_bind,xE,Option.some.injEq]at h;obtain⟨b,hb,bs,z1,rfl⟩:=h;exact⟨b,bs,hb,z1,rfl⟩
def Goal(enc:TypeId×Value->H)(P:Program)(T:TT)(W:World)(d:Nat)(t:TypeId):Prop:=∀(fuel:Nat) (cs:List Value) (x:DataW H×List MemPlace),
 DataW.trod enc P W 0 (λ_=>true) true fuel t cs=some x->(∀n∈x.1.weights P t,n<=reachBytes)->∃ys,Shp T d t ys/\Am W cs ys
def Jj(hT:TOk P T){d:Nat}:∀(fs:List Field) (off size:Nat) (cs:List Value),Bg T fs off size=true->cs.length=size->(∀f∈fs,Goal enc P T W d f.type)->∀(fuel:Nat) (xs:List (DataW H×List MemPlace)),
  (fs.mapM λf=>DataW.trod enc P W 0 (λ_=>true) true fuel f.type ((cs.drop f.offset).take (P.cellsOf f.type)))=some xs->(∀n∈DataW.weightsEach P (fs.map (·.type)) (xs.map (·.1)),n<=reachBytes)->
  ∃ys,c1c (Shp T d) (fs.map (·.type)) ys/\Am W (cs.drop off) ys
 |[],off,size,cs,hc,hl,_,fuel,xs,h,_=>by simp only[Bg,beq_iff_eq]at hc;refine⟨[],rfl,?_⟩;rw[uY (by omega)];exact⟨rfl,by simp⟩
 |f::fs,off,size,cs,hc,hl,hg,fuel,xs,h,hw=>by
  simp only[Bg,zX,beq_iff_eq]at hc;obtain⟨z1,hc⟩:=hc;split at hc
  ·rename_i i hi;obtain⟨b,bs,hb,z6,rfl⟩:=U1 h;simp only[xA,DataW.weightsEach,zV]at hw;have z7:P.cellsOf f.type=i.size:=TOk.cellsOf hT hi;rw[z1,z7]at hb;obtain⟨zs,z8,za⟩:=hg f (by simp) fuel _ b hb (λn hn=>hw n (.inl hn));obtain⟨rest,zb,zc⟩:=Jj hT fs (off+i.size) size cs hc hl (λg zd=>hg g (by simp[zd])) fuel bs z6 (λn hn=>hw n (.inr hn));refine⟨zs++rest,⟨zs,rest,rfl,z8,zb⟩,?_⟩;have:cs.drop off=(cs.drop off).take i.size++cs.drop (off+i.size):=by rw[<-tU,xO]
   rw[this];exact za.app zc
  cases hc
def Zc{d:Nat}{e:TypeId}{c:Nat}(hg:Goal enc P T W d e):∀(n s:Nat) (cs:List Value),cs.length=(s+n) * c->∀(fuel:Nat) (xs:List (DataW H×List MemPlace)),
  ((ue s n).mapM λi=>DataW.trod enc P W 0 (λ_=>true) true fuel e ((cs.drop (i * c)).take c))=some xs->(∀k∈DataW.weightsAll P e (xs.map (·.1)),k<=reachBytes)->
  ∃ys,f2e (Shp T d e) n ys/\Am W (cs.drop (s * c)) ys
 |0,s,cs,hl,fuel,xs,h,_=>by refine⟨[],rfl,?_⟩;rw[uY (by rw[hl];simp)];exact⟨rfl,by simp⟩
 |n+1,s,cs,hl,fuel,xs,h,hw=>by
  rw[uh]at h;obtain⟨b,bs,hb,z1,rfl⟩:=U1 h;simp only[xA,DataW.weightsAll,zV]at hw;obtain⟨zs,z6,z7⟩:=hg fuel _ b hb (λk hk=>hw k (.inl hk));obtain⟨rest,z8,za⟩:=Zc hg n (s+1) cs (by rw[hl];congr 1;omega) fuel bs z1 (λk hk=>hw k (.inr hk));refine⟨zs++rest,⟨zs,rest,rfl,z6,z8⟩,?_⟩;have:cs.drop (s * c)=(cs.drop (s * c)).take c++cs.drop ((s+1) * c):=by rw[yO,tV,<-tU,xO]
  rw[this];exact z7.app za
def Z0{d:Nat}{e:TypeId}{c:Nat}(hg:Goal enc P T W d e){a:Addr}(fuel:Nat):∀(n s:Nat) (xs:List (DataW H×List MemPlace)),
  ((ue s n).mapM λi=>(W.cells? 0 (a.add (i * c)) c).bind (DataW.trod enc P W 0 (λ_=>true) true fuel e))=some xs->(∀k∈DataW.weightsAll P e (xs.map (·.1)),k<=reachBytes)->
  ∃z1:List (List AV),z1.length=n/\(∀ys∈z1,Shp T d e ys/\ys.length=c)/\∀i ys,z1[i]?=some ys->∃cs,W.cells? 0 (a.add ((s+i) * c)) c=some cs/\Am W cs ys
 |0,s,xs,h,_=>⟨[],rfl,by simp,by simp⟩
 |n+1,s,xs,h,hw=>by
  rw[uh]at h;obtain⟨b,bs,hb,za,rfl⟩:=U1 h;simp only[xA,DataW.weightsAll,zV]at hw;obtain⟨cs,z7,hb⟩:=xE.1 hb;obtain⟨zs,zb,z8⟩:=hg fuel _ b hb (λk hk=>hw k (.inl hk));obtain⟨z1,h1,h2,h3⟩:=Z0 hg fuel n (s+1) bs za (λk hk=>hw k (.inr hk));have zc:=(World.cells?_some z7).2.1;refine⟨zs::z1,by simp[h1],λys z6=>?_,λi ys hi=>?_⟩
  ·rcases zZ.1 z6 with rfl|z6
   ·exact⟨zb,by rw[<-z8.1,zc]⟩
   exact h2 ys z6
  rcases i with _|i
  ·simp only[wD,Option.some.injEq]at hi;subst hi;exact⟨cs,by simpa using z7,z8⟩
  obtain⟨zd,h4,h5⟩:=h3 i ys (by simpa using hi);exact⟨zd,by rw[show s+(i+1)=s+1+i by omega];exact h4,h5⟩
def y2z{a:Addr}{v:Value}(h:W.cell? a=some v):a.block<W.heap.size:=by
 rcases Nat.lt_or_ge a.block W.heap.size with h'|h'
 ·exact h'
 simp[World.cell?,Array.getElem?_eq_none h']at h
def u0i{ei:TI}{zs:List AV}(z1:ei.agg=true\/zs.length=1)(hl:ei.agg=false->∀z∈zs,z.cells=[z]):(v1d ei zs).cells=zs:=by
 unfold v1d;split
 ·rfl
 rename_i h;have h':ei.agg=false:=by simpa using h
 rcases z1 with h1|h1
 ·rw[h1]at h';cases h'
 obtain⟨z,rfl⟩:=List.length_eq_one_iff.1 h1;exact hl h' z (by simp)
def Shp.leafs{d:Nat}{e:TypeId}{ei:TI}{ys:List AV}(h:Shp T d e ys)(he:look T e=some ei)(ha:ei.agg=false):∀z∈ys,z.cells=[z]:=by
 cases d with
 |zero=>exact h.elim
 |succ d=>
  unfold Shp at h;rw[he]at h;simp only[Mn]at h;unfold TI.agg at ha;split at h
  ·obtain⟨b,rfl⟩:=h;simp[AV.cells]
  ·obtain⟨n,rfl,_⟩:=h;simp[AV.cells]
  ·obtain⟨s,rfl,_⟩:=h;simp[AV.cells]
  ·obtain⟨_,xs,_,rfl,_⟩:=h;simp[AV.cells]
  ·rename_i hd;rw[hd]at ha;cases ha
  ·rename_i hd;rw[hd]at ha;cases ha
  exact h.elim
def Ab(hT:TOk P T):∀(d:Nat) (t:TypeId),O6 T d t=true->Goal enc P T W d t
 |0,_,hs=>by cases hs
 |d+1,t,hs=>by
  intro fuel cs x h hw;unfold O6 at hs;cases hi:look T t with
  |none=>rw[hi]at hs;cases hs
  |some i=>
   rw[hi]at hs;simp only at hs;have hu:=TOk.und hT hi;have hc:=TOk.cellsOf hT hi;cases fuel with
   |zero=>simp[DataW.trod]at h
   |succ fuel=>
    unfold DataW.trod at h;simp only[Shp,hi,Mn];have z1:∀ {q:TypeDesc},P.underlying t=some q->i.desc=q:=λhq=>by rw[hu]at hq;exact Option.some.inj hq
    split at h
    case h_1 b hq=>rw[z1 hq]at hs |-;simp only[Option.some.injEq]at h;exact⟨_,⟨b,rfl⟩,.one (.bool b)⟩
    case h_2 k k' n hq=>
     rw[z1 hq]at hs |-;split at h
     ·rename_i hk;obtain⟨rfl,hk⟩:=hk;simp only[Lit.wf,zX,decide_eq_true_eq]at hk;exact⟨_,⟨n,rfl,hk.1,hk.2⟩,.one (.int _ n)⟩
     cases h
    case h_4 s hq=>
     rw[z1 hq]at hs |-;split at h
     ·simp only[Option.some.injEq]at h;subst h;refine⟨_,⟨s.data.toList,rfl,hw _ (by simp[DataW.weights])⟩,.one ?_⟩;have:Value.string s= .string ⟨s.data.toList.toArray⟩:=by cases s;simp
      rw[this];exact .str _
     cases h
    case h_7 e hq=>
     rw[z1 hq]at hs |-;simp only[zX]at hs;obtain⟨⟨_,zf⟩,z6⟩:=hs;cases he:look T e with
     |none=>rw[he]at z6;cases z6
     |some ei=>exact⟨_,⟨ei,[],he,rfl,by simp,by simp⟩,.one (.list _ _ _ 0 _ (λ_ _=>undef) rfl (by simp) (by unfold maxLen;omega) (by simp) (λh0=>by simp at h0) (by simp))⟩
    case h_8 e a len cap hq=>
     rw[z1 hq]at hs |-;simp only[zX]at hs;obtain⟨⟨_,zf⟩,z6⟩:=hs;cases he:look T e with
     |none=>rw[he]at z6;cases z6
     |some ei=>
      rw[he]at z6;simp only[zX,Bool.or_eq_true,beq_iff_eq,decide_eq_true_eq]at z6;obtain⟨z6,hz⟩:=z6;have zd:=TOk.cellsOf hT he;have zh:=TOk.bytesOf hT he;rw[zd]at h;split at h
      ·rename_i hcap;simp only[xE,zS]at h;obtain⟨elems,ze,rest,_,rfl⟩:=h;simp only[DataW.weights,hq,zZ,zV]at hw;rw[uz]at ze;obtain⟨zb,h1,h2,h3⟩:=Z0 (Ab hT d e zf) fuel len 0 elems ze (λk hk=>hw k (.inr (.inl hk)));have hlen:elems.length=len:=by have:=mapM_some_length ze;simpa using this
       have za:∀ys∈zb,(v1d ei ys).cells=ys:=λys z7=>by have:=h2 ys z7;refine u0i (z6.imp_right λh=>by rw[this.2,h]) (λha=>this.1.leafs he ha)
       refine⟨_,⟨ei,zb.map (v1d ei),he,rfl,?_,λx hx=>?_⟩,.one ?_⟩
       ·have:=hw _ (.inl rfl);simp only[zY]at this |-;rw[zh]at this;rw[h1];refine yL (yF _ ?_) this;omega
       ·obtain⟨ys,z7,rfl⟩:=zO.1 hx;exact⟨ys,rfl,(h2 ys z7).1⟩
       refine .list (some a) len cap ei.size _ (λi j=>(((W.cells? 0 (a.add (i * ei.size)) ei.size).getD [])[j]?).getD undef) (by simp[h1]) (by simp[h1];exact hcap.2.1) hcap.2.2 (λx hx=>?_) (λh0=>?_) (λi x hx j y hy=>?_)
       ·obtain⟨ys,z7,rfl⟩:=zO.1 hx;rw[za ys z7];exact(h2 ys z7).2
       ·have key:∀i j,i<(zb.map (v1d ei)).length->j<ei.size->W.cell? (a.add (i * ei.size+j))=some ((((W.cells? 0 (a.add (i * ei.size)) ei.size).getD [])[j]?).getD undef):=λi j zg hj=>by
         simp only[zY]at zg;obtain⟨cs,z8,hr⟩:=h3 i zb[i] (by simp[zg]);rw[x_]at z8;rw[z8,wC];obtain⟨_,q2,q3⟩:=World.cells?_some z8;have:=q3 j hj;rw[add_add]at this;rw[this];have zi:j<cs.length:=by omega
         simp[zi]
        refine⟨a,rfl,λ_=>?_,key⟩;have:=y2z (key 0 0 h0 hz)
        rwa [block_add]at this
       rw[zU]at hx;obtain⟨ys,z7,rfl⟩:=zS.1 hx;have hm:=zJ z7;rw[za ys hm]at hy;obtain⟨cs,z8,hr⟩:=h3 i ys z7;rw[x_]at z8;rw[z8,wC];have hj:j<cs.length:=by rw[hr.1];exact(zB.1 hy).1
       have:=hr.2 j cs[j] y (by simp[hj]) hy;simpa[hj]using this
      cases h
    case h_9 cs _ _ fs hq=>
     rw[z1 hq]at hs |-;simp only[zX,zW]at hs;split at h
     ·rename_i hl;rw[hc]at hl;obtain⟨xs,zc,rfl⟩:=zS.1 h;simp only[DataW.weights,hq]at hw;obtain⟨ys,h1,h2⟩:=Jj hT fs.toList 0 i.size cs hs.1 hl (λf hf=>Ab hT d f.type (hs.2 f hf)) fuel xs zc hw;exact⟨ys,h1,by simpa using h2⟩
     cases h
    case h_10 cs _ _ n e hq=>
     rw[z1 hq]at hs |-;simp only[zX]at hs;cases he:look T e with
     |none=>rw[he]at hs;cases hs.2
     |some ei=>
      rw[he]at hs;simp only[beq_iff_eq]at hs;have zd:=TOk.cellsOf hT he;split at h
      ·rename_i hl;rw[hc,hs.2]at hl;obtain⟨xs,zc,rfl⟩:=zS.1 h;simp only[DataW.weights,hq]at hw;rw[zd,uz]at zc;obtain⟨ys,h1,h2⟩:=Zc (Ab hT d e hs.1) n 0 cs (by simpa using hl) fuel xs zc hw;exact⟨ys,h1,by simpa using h2⟩
      cases h
    all_goals first
     |(cases h;done)
     |(rename_i hq;rw[z1 hq]at hs;cases hs;done)
     |(rename_i hq _;rw[z1 hq]at hs;cases hs;done)
     |(rename_i hq _ _;rw[z1 hq]at hs;cases hs;done)
     |skip
def I8(T:TT)(d:Nat):List TypeId->List AV->Prop
 |[],xs=>xs=[]
 |t::ts,xs=>∃i zs rest,look T t=some i/\xs=v1d i zs::rest/\Shp T d t zs/\I8 T d ts rest
def j1g (hT:TOk P T) {d:Nat} {t:TypeId} (hs:O6 T d t=true) {r:Reach} {base:Nat} {v:Value} (z1:Value.okWide P W r base t v) {D:DataW H} {ps:List MemPlace} (h:DataW.Trod enc P W 0 (λ_=>true) true t v D ps)
  (hw:∀n∈D.weights P t,n<=reachBytes):∃i zs,look T t=some i/\Shp T d t zs/\PVR W (·<W.heap.size) v (v1d i zs):=by
 obtain⟨fuel,hf⟩:=h;obtain⟨ys,h1,h2⟩:=Ab hT d t hs fuel _ _ hf hw;cases d with
 |zero=>cases hs
 |succ d=>
  have z6:=h1;unfold Shp at h1;cases hi:look T t with
  |none=>rw[hi]at h1;exact h1.elim
  |some i=>
   rw[hi]at h1;have hu:=TOk.und hT hi;refine⟨i,ys,rfl,z6,?_⟩;unfold Value.okWide at z1;rw[hu]at z1;unfold v1d;by_cases ha:i.agg=true
   ·rw[if_pos ha];unfold TI.agg at ha;have:∃cs,v= .agg cs:=by
     split at ha
     ·rename_i hd;rw[hd]at z1;obtain⟨cs,hc,_⟩:=z1;exact⟨cs,hc⟩
     ·rename_i hd;rw[hd]at z1;obtain⟨cs,hc,_⟩:=z1;exact⟨cs,hc⟩
     cases ha
    obtain⟨cs,rfl⟩:=this;exact .agg cs ys (by simpa[Value.cells]using h2.1) (λj u y hu hy=>h2.2 j u y (by simpa[Value.cells]using hu) hy)
   rw[if_neg ha];have z7:∃y,ys=[y]:=by
    simp only[Mn]at h1;unfold TI.agg at ha;split at h1
    ·obtain⟨b,rfl⟩:=h1;exact⟨_,rfl⟩
    ·obtain⟨b,rfl,_⟩:=h1;exact⟨_,rfl⟩
    ·obtain⟨b,rfl,_⟩:=h1;exact⟨_,rfl⟩
    ·obtain⟨_,xs,_,rfl,_⟩:=h1;exact⟨_,rfl⟩
    ·rename_i hd;rw[hd]at ha;exact absurd rfl ha
    ·rename_i hd;rw[hd]at ha;exact absurd rfl ha
    exact h1.elim
   obtain⟨y,rfl⟩:=z7;have z8:∀cs,v≠ .agg cs:=by
    rintro cs rfl;have hcell:Cell.okWide P W r base t (.agg cs):=by
     unfold TI.agg at ha;split at z1
     ·rename_i heq;rw[Option.some.inj heq]at ha;exact absurd rfl ha
     ·rename_i heq;rw[Option.some.inj heq]at ha;exact absurd rfl ha
     exact z1
    simp only[Mn]at h1;unfold Cell.okWide at hcell;rw[hu]at hcell;split at h1;all_goals first|(exact h1.elim)|skip
    all_goals (rename_i hd;rw[hd]at hcell)
    all_goals first|(simp[Cell.ok,hu,hd]at hcell;done)|skip
   have za:v.cells.toList=[v]:=by cases v<;>first|rfl|exact absurd rfl (z8 _)
   rw[za]at h2;exact h2.2 0 v y rfl rfl
def q0h(hT:TOk P T){d:Nat}{r:Reach}{base:Nat}:∀(ts:List TypeId) (vs:List Value) (ds:List (DataW H)) (ps:List MemPlace),ts.all (O6 T d)=true->DataW.TrodAll enc P W 0 (λ_=>true) true ts vs ds ps->
  (∀(j:Nat) t v,ts[j]?=some t->vs[j]?=some v->Value.okWide P W r base t v)->(∀n∈DataW.weightsEach P ts ds,n<=reachBytes)->
  ds.length=ts.length/\∃xs,I8 T d ts xs/\vs.length=xs.length/\∀(j:Nat) (v:Value) (x:AV),vs[j]?=some v->xs[j]?=some x->PVR W (·<W.heap.size) v x
 |[],vs,ds,ps,_,h,_,_=>by obtain⟨rfl,rfl,_⟩:=trodAll_nil h;exact⟨rfl,[],rfl,rfl,by simp⟩
 |t::ts,vs,ds,ps,hs,h,z1,hw=>by
  obtain⟨v,z6,D,z7,p,q,rfl,rfl,rfl,h0,h1⟩:=trodAll_cons h;simp only[uw,zX]at hs;simp only[DataW.weightsEach,zV]at hw;obtain⟨i,zs,g1,g2,g3⟩:=j1g hT hs.1 (z1 0 t v rfl rfl) h0 (λn hn=>hw n (.inl hn));obtain⟨k0,xs,k1,k2,k3⟩:=q0h hT ts z6 z7 q hs.2 h1 (λj t v a b=>z1 (j+1) t v (by simpa using a) (by simpa using b)) (λn hn=>hw n (.inr hn));refine⟨by simp[k0],v1d i zs::xs,⟨i,zs,xs,g1,rfl,g2,k1⟩,by simp[k2],λj u x hu hx=>?_⟩;rcases j with _|j
  ·simp only[wD,Option.some.injEq]at hu hx;subst hu;subst hx;exact g3
  exact k3 j u x (by simpa using hu) (by simpa using hx)
def Sj(hl:laidOutB P=true){W':World}{sp:Nat->Bool}:∀(ts:List TypeId) (vs:List Value) (ds:List (DataW H)) (ps:List MemPlace),(ts.all λt=>P.readableRec t && decide (t<P.types.size))=true->
  DataW.TrodAll enc P W 0 (λ_=>true) true ts vs ds ps->(∀p∈ps,W.sameAt W' p)->(∀p∈ps,sp p.block=true)->DataW.TrodAll enc P W' 0 sp true ts vs ds ps
 |[],vs,ds,ps,_,h,_,_=>by obtain⟨rfl,rfl,rfl⟩:=trodAll_nil h;rfl
 |t::ts,vs,ds,ps,hr,h,z1,hsp=>by
  obtain⟨v,z6,D,z7,p,q,rfl,rfl,rfl,h0,h1⟩:=trodAll_cons h;simp only[uw,zX,decide_eq_true_eq]at hr;exact⟨p,q,WideElems.Trod_stays hl hr.1.1 hr.1.2 h0 (λx hx=>z1 x (by simp[hx])) (λx hx=>hsp x (by simp[hx])),
   Sj hl ts z6 z7 q hr.2 h1 (λx hx=>z1 x (by simp[hx])) (λx hx=>hsp x (by simp[hx])),rfl⟩
def k05 {fn:Func} {s:ChangeSpec} {apart fresh handsOn again:Bool} {W':World} {args:Array Value} {ds:List (DataW H)} {before:List MemPlace} {tb:TypeId} (hl:laidOutB P=true)
  (z6:fn.resultTypes= #[tb]) (hb:P.underlying tb=some .bool) (z7:(fn.params.toList.all λt=>P.readableRec t && decide (t<P.types.size))=true) (z1:s.vars=[])
  (z8:s.fn H ds={ results:=[.lit (.bool true)],args:=ds })
  (hW:DataW.Whole enc P fn.params.toList s.vars apart W args.toList ds [] before) (zb:Below W.heap.size W W'):s.post enc P fn apart fresh handsOn again W args (.bool true) W':=by
 have za:=hW.lt;have zc:=hW;obtain⟨p,q,hA,hV,rfl,hz,hn⟩:=hW;rw[z1]at hV;obtain⟨_,rfl⟩:=trodVars_none hV;simp only[xB]at zc za hz hn;have hst:∀sp:Nat->Bool,(∀x∈p,sp x.block=true)->DataW.TrodAll enc P W' 0 sp true fn.params.toList args.toList ds p:=λsp ze=>Sj hl _ _ _ _ z7 hA (λx hx=>zb.same (za x hx)) ze;have hold:∀x∈p,(λb=>decide (b<W.heap.size)) x.block=true:=λx hx=>by simpa using za x hx
 have zd:∀(b:Nat) (sp:Nat->Bool) (hd:Bool),DataW.TrodAll enc P W' b sp hd fn.resultTypes.toList ((Value.bool true).resultList fn.resultTypes.size) (s.fn H ds).results []:=λb sp hd=>by rw[z6,z8];exact trodAll_mk1 (shut_bool hb true)
 refine⟨ds,[],p,[],p,[],zc,by simpa using zd _ _ _,by simpa[z8]using hst _ hold,by rw[xB,z8,z1];rfl,World.keptBut_mono (λx hx=>⟨hx,.inr (.inl hx)⟩) (zb.frame (·∈p)),λ_=>?_⟩;refine⟨ok_one z6 rfl (okWide_bool_mk hb true),_,[],([]++p)++[],⟨[]++p,[],trodAll_append (by simpa[z8]using hst _ (λ_ _=>rfl)) (by simpa using zd _ _ _),by rw[z1];rfl,rfl,?_,?_⟩,?_⟩
 ·intro b off hp;simp only[xZ,xB]at hp;have zf:=za _ hp;rw[zb.frozen zf];exact hz b off hp
 ·intro ha;simpa using hn ha
 intro x hx _;simpa using hx
def x1e (hT:TOk P T) (hl:laidOutB P=true) {f:FuncId} {fn:Func} {d:Nat} {tb:TypeId} (z8:fn.resultTypes= #[tb]) (hb:P.underlying tb=some .bool)
  (z7:(fn.params.toList.all λt=>P.readableRec t && decide (t<P.types.size))=true) (z1:fn.params.toList.all (O6 T d)=true)
  (hE:EOK P W (·<W.heap.size)) (zc:∀xs,I8 T d fn.params.toList xs->PC P f xs (λr=>r= .bool true)) {s:ChangeSpec} (z6:s.vars=[])
  (zd:∀ds:List (DataW H),ds.length=fn.params.toList.length->s.fn H ds={ results:=[.lit (.bool true)],args:=ds }) {apart fresh handsOn again:Bool}
  {base:Nat} {args:Array Value} {ds gs:List (DataW H)} {before:List MemPlace} (za:∀(j:Nat) t v,fn.params[j]?=some t->args[j]?=some v->Value.okWide P W .any base t v)
  (hW:DataW.Whole enc P fn.params.toList s.vars apart W args.toList ds gs before) {vt:List TypeId} (ze:vt=[]) (zb:(DataW.weightsEach P (fn.params.toList++vt) (ds++gs)).all (·<=reachBytes)=true):
  Calls P f args W λe W'=>∃v,e= .returned v/\s.post enc P fn apart fresh handsOn again W args v W':=by
 have zf:=hW;obtain⟨p,q,hA,hV,rfl,hz,hn⟩:=hW;rw[z6]at hV;obtain⟨rfl,rfl⟩:=trodVars_none hV;rw[ze,xB,xB]at zb;have hw:∀n∈DataW.weightsEach P fn.params.toList ds,n<=reachBytes:=λn hn=>by simpa using zW.1 zb n hn
 obtain⟨hlen,xs,hx,zg,zh⟩:=q0h hT fn.params.toList args.toList ds p z1 hA (λj t v a b=>za j t v (by simpa using a) (by simpa using b)) hw;refine((zc xs hx).2 W (·<W.heap.size) args hE (λ_ h=>h) (by simpa using zg) (λj v x a b=>zh j v x (by simpa using a) b)).mono ?_;rintro e W' ⟨v,I',r,rfl,rfl,zi,_,_,hv⟩;cases hv;exact⟨_,rfl,k05 hl z8 hb z7 z6 (zd ds hlen) (by simpa using zf) zi⟩
end
end
section
open Go.RowKit
section
variable {P:Program} [Env P] {T:TT} {nt k:Nat} {S:AS} {ops:Array Oper} {o:Oper} {R:AS->Prop}
@[simp] def byteAV (c:UInt8):AV:= .int .u8 c.toNat
def q03 (hT:TOk P T) {wr:Bool} (hw:Qt ops S o=some true) {x:Operand} {src dst e:TypeId} (ho:o.op= .convert src dst x) {it ei idst:TI} (ht:look T src=some it) (hit:it.desc= .slice e) (he:look T e=some ei) (ze:ei.desc= .int .u8)
  (z8:look T dst=some idst) (hid:idst.desc= .string) {xv:AV} (hx:rho S.sl x=some xv) {s:List UInt8} (hs:Jz S.hp xv=some (s.map byteAV)) (hd:Wq nt o=true) (hR:R (S.putD o.dst (.str s))):Wb P nt k wr ops o S R:=λC a w K Q hst hK=>by
 unfold OpW;rw[if_pos (hst.wanted hw)];obtain⟨I,m,zb,zc,hk,hE⟩:=hst;obtain⟨ao,cap,u,zd,hcell,zf⟩:=Jn zb (Qr zc hx) hs;have z1:=hT.und ht;rw[hit]at z1;have z6:=hT.und he;rw[ze]at z6;have z7:=hT.und z8;rw[hid]at z7;rw[zY]at zd hcell;have za:(convert src dst (a.eval x)).run P w= .ok (.string ⟨s.toArray⟩) w:=by
  rw[zd];rcases vz s.length with h0|h0
  ·have zg:=wK h0;subst zg;cases ao with
   |none=>rw[run_convert_bytes_string w src dst e none _ cap z1 z6 z7];simp[Conv.bytesToString];rfl
   |some ad=>exact run_convert_bytes_back w src dst e ad cap [] z1 z6 z7 (λj hj=>by simp at hj)
  obtain⟨ad,rfl,c,zh,zi⟩:=hcell h0;refine run_convert_bytes_back w src dst e ad cap s z1 z6 z7 (λj hj=>?_);have hc:c=1:=by rw[<-zh (byteAV s[0]) (zO.2 ⟨s[0],zK h0,rfl⟩)];rfl
  subst hc;have h1:=zi j 0 hj (by omega);rw[Nat.mul_one,Nat.add_zero]at h1;have h2:=zf j (byteAV s[j]) (by simp[hj]) 0 (byteAV s[j]) rfl;rw[h1];have h3:u j 0= .int .u8 (s[j]).toNat:=(VR.pure (m:=m) (n:=0) h2).int_inv;rw[h3]
 unfold wpA;have:(execOp a.eval o).run P w= .ok (.value (.string ⟨s.toArray⟩)) w:=by simp only[execOp,ho];rw[Sem.run_bind,za];rfl
 rw[this];exact hK _ _ w hR (St.value zc hk hE zb (Fut.refl _ _ _ _) (zQ _) (Qo hd) (.pure (.str _))) (λ_=>Tl.refl w)
end
end
section
open Go.RowKit
def AV.val:AV->Option Value
 | .bool b=>some (.bool b)
 | .int k n=>some (.int k n)
 | .str s=>some (.string ⟨s.toArray⟩)
 |_=>none
def PVR.val{w:World}{I:Nat->Prop}{v u:Value}{x:AV}(h:PVR w I v x)(hx:x.val=some u):v=u:=by cases x<;>simp[AV.val]at hx<;>subst hx<;>cases h<;>rfl
end
section
open Go.RowKit
section
variable {P:Program} [Env P] {T:TT} {nt k:Nat} {Q:Exit->AS->Prop} {S:AS} {ops:Array Oper} {o:Oper} {R:AS->Prop}
def q1n {wr:Bool} (hw:Qt ops S o=some true) (hd:Wq nt o=true) {r:AV}
  (h:∀(W0:World) (I0:Nat->Prop) (w:World) (I:Nat->Prop) (m:Nat->Option Nat) (a:Act),WS W0 I0 w I m S.hp->E9 nt S.sl a w I m S.hp.length->
   ∃v,(execOp a.eval o).run P w= .ok (.value v) w/\VR w I m S.hp.length v r) (hR:R (S.putD o.dst r)):Wb P nt k wr ops o S R:=λC a w K Q hst hK=>by
 unfold OpW;rw[if_pos (hst.wanted hw)];obtain⟨I,m,z6,z7,hk,hE⟩:=hst;obtain⟨v,z1,hv⟩:=h _ _ w I m a z6 z7;unfold wpA;rw[z1];exact hK _ _ w hR (St.value z7 hk hE z6 (Fut.refl _ _ _ _) (zQ _) (Qo hd) hv) (λ_=>Tl.refl w)
end
end
section
open Go.RowKit
section
variable {W0 w:World} {I0 I:Nat->Prop} {m:Nat->Option Nat} {H:List AObj}
def WS.addI(h:WS W0 I0 w I m H){l:Nat}(h1:l<w.heap.size)(h2:W0.heap.size<=l)(h3:∀(id:Nat) (o:AObj),H[id]?=some o->o.live=true->m id≠some l):WS W0 I0 w (λb=>I b\/b=l) m H:=by
 have hf:Fut H.length w I m w (λb=>I b\/b=l) m:=⟨⟨λ_ h=> .inl h,λ_ _=>rfl⟩,λ_ _=>rfl,λ_ _ h=>h⟩
 refine⟨h.below,λb hb=> .inl (h.i0 b hb),λb hb=>?_,λid o ho=>(h.obj id o ho).mono hf (zQ _) (λ_ _ _=>rfl),λid o b ho hl hm=>?_,h.inj⟩
 ·rcases hb with hb|rfl
  ·exact h.iw b hb
  exact⟨h1,.inr h2⟩
 have:=h.own id o b ho hl hm;refine⟨this.1,λhc=>?_,this.2.2⟩;rcases hc with hc|rfl
 ·exact this.2.1 hc
 exact h3 id o ho hl hm
def WS.revive (h:WS W0 I0 w I m H) {q l:Nat} {o':AObj} (ho:H[q]?=some .dead) (hm:m q=some l) (h1:l<w.heap.size) (h2:W0.heap.size<=l) (hI:¬I l) (h3:∀(id:Nat) (o:AObj),H[id]?=some o->o.live=true->m id≠some l)
  (hO:U4 w I m H.length (some l) o'):WS W0 I0 w I m (H.set q o'):=by
 have hq:q<H.length:=(zB.1 ho).1;have z1:∀(k:Nat) (p:AObj),(H.set q o')[k]?=some p->(k≠q/\H[k]?=some p)\/(k=q/\p=o'):=λk p hp=>by
  by_cases hk:k=q
  ·subst hk;rw[zL hq]at hp;exact .inr ⟨rfl,(Option.some.inj hp).symm⟩
  rw[zE (by omega)]at hp;exact .inl ⟨hk,hp⟩
 refine⟨h.below,h.i0,h.iw,λk p hp=>?_,λk p c hp lp mc=>?_,λi j oi oj c hi hj li lj mi mj=>?_⟩
 ·rw[wZ];rcases z1 k p hp with⟨_,h5⟩|⟨rfl,rfl⟩
  ·exact h.obj k p h5
  rw[hm];exact hO
 ·rcases z1 k p hp with⟨_,h5⟩|⟨rfl,rfl⟩
  ·exact h.own k p c h5 lp mc
  rw[hm]at mc;cases mc;exact⟨h2,hI,h1⟩
 rcases z1 i oi hi with⟨a1,a2⟩|⟨rfl,rfl⟩
 ·rcases z1 j oj hj with⟨b1,b2⟩|⟨rfl,rfl⟩
  ·exact h.inj i j oi oj c a2 b2 li lj mi mj
  rw[hm]at mj;cases mj;exact absurd mi (h3 i oi a2 li)
 rcases z1 j oj hj with⟨b1,b2⟩|⟨rfl,rfl⟩
 ·rw[hm]at mi;cases mi;exact absurd mj (h3 j oj b2 lj)
 rfl
end
def Tg:List (Nat×AV)->List Tmp->List AV->List (Nat×AV)
 |sl,p::ps,x::xs=>Tg (put sl p x) ps xs
 |sl,_,_=>sl
def Sq{w:World}{I:Nat->Prop}{m:Nat->Option Nat}{n nt:Nat}:∀(ps:List Tmp) (xs:List AV) (vs:List Value) (sl:List (Nat×AV)) (tm:Array Value),ps.length=xs.length->vs.length=xs.length->(ps.all λp=>decide (p<nt))=true->
  (∀(i:Nat) (v:Value) (x:AV),vs[i]?=some v->xs[i]?=some x->VR w I m n v x)->tm.size=nt->(∀(t:Nat) (x:AV),look sl t=some x->∃v,tm[t]?=some v/\VR w I m n v x)->
  ((ps.zip vs).foldl (λ(tm:Array Value) (p:Tmp×Value)=>tm.setIfInBounds p.1 p.2) tm).size=nt/\∀(t:Nat) (x:AV),look (Tg sl ps xs) t=some x->∃v,((ps.zip vs).foldl (λ(tm:Array Value) (p:Tmp×Value)=>tm.setIfInBounds p.1 p.2) tm)[t]?=some v/\VR w I m n v x
 |[],_,_,sl,tm,_,_,_,_,h1,h2=>⟨h1,h2⟩
 |p::ps,[],_,_,_,hl,_,_,_,_,_=>by cases hl
 |p::ps,x::xs,[],_,_,_,hl,_,_,_,_=>by cases hl
 |p::ps,x::xs,v::vs,sl,tm,z1,z6,hp,hv,h1,h2=>by
  simp only[uw,zX,decide_eq_true_eq]at hp;simp only[List.zip_cons_cons,List.foldl_cons,Tg];refine Sq ps xs vs (put sl p x) _ (by simpa using z1) (by simpa using z6) hp.2 (λi v x a b=>hv (i+1) v x a b) (by simpa using h1) (λt y hy=>?_);rw[S5]at hy;by_cases ht:t=p
  ·subst ht;rw[if_pos rfl]at hy;cases hy;exact⟨v,by simp[h1,hp.1],hv 0 v _ rfl rfl⟩
  rw[if_neg ht]at hy;obtain⟨u,hu,hr⟩:=h2 t y hy;exact⟨u,by rw[Array.getElem?_setIfInBounds_ne (Ne.symm ht)];exact hu,hr⟩
section
variable {P:Program} [Env P] {T:TT} {nt k:Nat} {S:AS} {ops:Array Oper} {o:Oper} {R:AS->Prop}
def y0j(q:Nat)(Rr:Option Code->List AObj->Prop):Exit->AS->Prop
 | .normal,S=>S.hp[q]?=some .dead/\Rr none S.hp
 | .ret,S=>S.hp[q]?=some .dead/\Rr (some .ret) S.hp
 | .exit id,S=>S.hp[q]?=some .dead/\Rr (some (.exit id)) S.hp
 |_,_=>False
def C4{a:Act}{w:World}{cf:Operand}{args:Array Operand}{ts:Array TypeId}(ho:o.op= .call ⟨.value cf,args,ts⟩){l:Nat}(hf:a.eval cf= .func (.yield l) #[] #[]){r:Loop}(hr:w.heap[l]?=some (.loop r))(hs:args.size=r.params.size):
  (execOp a.eval o).run P w= .ok (.round l r.fn ((r.params.zip (args.map a.eval)).foldl (λtmps (t,a)=>tmps.setIfInBounds t a) r.tmps) r.assign r.body) w:=by
 have:=run_yield (P:=P) (args:=args.map a.eval) hr (by simpa using hs);simp only[execOp,ho,resolve,hf,Deferred.ofValue,invoke];simp[this]
def Ym {cf:Operand} {args:Array Operand} {ts:Array TypeId} (hw:Qt ops S o=some true) (ho:o.op= .call ⟨.value cf,args,ts⟩) {q:Nat} (zv:rho S.sl cf=some (.yld q)) {xs:List AV} (zw:Q5 (args.toList.map (rho S.sl))=some xs)
  {zc:Nat} {sl':List (Nat×AV)} {ps:List Tmp} {asg body:Code} (zl:S.hp[q]?=some (.lp true none zc sl' ps asg body)) (hlen:ps.length=xs.length) (zx:(ps.all λp=>decide (p<zc))=true) (hd:Wq nt o=true)
  (Rr:Option Code->List AObj->Prop)
  (z8:AWP P zc S.hp.length asg (Se (AWP P zc S.hp.length body (y0j q Rr)) (λ_ _=>False)) ⟨Tg sl' ps xs,S.hp.set q .dead⟩)
  (hR:∀(jump:Option Code) (H':List AObj),Rr jump H'->R (({ S with hp:=H'.set q (.lp jump.isNone jump zc sl' ps asg body) }:AS).putD o.dst (.bool jump.isNone))):Wb P nt k true ops o S R:=λC a w K Q hst hK=>by
 unfold OpW;rw[if_pos (hst.wanted hw)];obtain⟨I,m,zg,zm,hk,hE⟩:=hst;obtain⟨l,zh,hq,zy⟩:=(Qr zm zv).yld_inv;obtain⟨e5,e6⟩:=Cy (g:=true) rfl zm zw;obtain⟨b,r,hb,hh,q1,q2,q3,q4,q5,q6,q7⟩:=zg.obj q _ zl;obtain rfl:l=b:=by rw[zh]at hb;exact Option.some.inj hb
 obtain⟨o1,o2,o3⟩:=zg.own q _ l zl rfl zh;have zz:args.size=r.params.size:=by rw[q3];simp at e5 |-;omega
 unfold wpA;rw[C4 ho zy hh zz];simp only[k11];have zd:(r.params.zip (args.map a.eval)).foldl (λtmps (t,a)=>tmps.setIfInBounds t a) r.tmps=(ps.zip (args.map a.eval).toList).foldl (λ(tm:Array Value) (p:Tmp×Value)=>tm.setIfInBounds p.1 p.2) r.tmps:=by rw[q3,<-Array.foldl_toList,Array.toList_zip]
 rw[zd];obtain⟨s1,s2⟩:=Sq (w:=w) (I:=I) (m:=m) (n:=S.hp.length) ps xs (args.map a.eval).toList sl' r.tmps hlen (by simpa using e5) zx (λi v x hv hx=>e6 i v x (by simpa using hv) hx) q6 q7;generalize y8:(ps.zip (args.map a.eval).toList).foldl (λ(tm:Array Value) (p:Tmp×Value)=>tm.setIfInBounds p.1 p.2) r.tmps=TM at *
 refine roundIn_of_wpIn trivial ?_;obtain⟨f1,f2⟩:=zg.freeze zl rfl zh;rw[q4,q5];have zn:∀b,I b->b≠l:=λb hb e=>o2 (e▸hb);refine wpIn_mono (z8 ⟨C.W0,C.I0,w,λc=>I c\/c=l,m,C.hE,some l⟩ { tmps:=TM,defers:=[] } w ⟨_,m,f1,⟨s1,trivial,λt x hx=>by
  obtain⟨v,hv,hr⟩:=s2 t x hx;exact⟨v,hv,by simpa using hr.mono f2 (zQ _)⟩⟩,by simp,⟨.refl _ _ _ _,(λh=>(by cases h)),λl' hl'=>by cases hl';exact⟨.inr rfl,r,hh⟩⟩⟩) ?_
 rintro e a2 w2 ⟨S2,hQ,I2,m2,g1,g2,g3,g4⟩;cases e with
 |normal=>
  have z6:I2 l:=g4.fut.ext.sub l (.inr rfl);have zi:w2.heap[l]?=some (.loop r):=(g4.fut.ext.imm l (.inr rfl)).trans hh;have zq:l<w2.heap.size:=(yQ.1 zi).1;refine⟨w2.putObj l (.loop { r with state:= .busy }),run_beginRound zi (by rw[q1];rfl),?_⟩;have zj:Shut w2 (w2.putObj l (.loop { r with state:= .busy })) I2 (·=l):=⟨World.putObj_size,λb hb=>World.putObj_heap_other hb,λb o hb ho=>by subst hb;rw[zi]at ho;cases ho;rfl,λb es ck hb hm=>by subst hb;rw[zi]at hm;cases hm⟩
  have y0:Below C.W0.heap.size w2 (w2.putObj l (.loop { r with state:= .busy })):=⟨rfl,rfl,rfl,by simp,λb hb=>World.putObj_heap_other (by omega)⟩
  have ze:∀b,b=l->¬C.I0 b:=λb hb h=>by subst hb;exact o2 (zg.i0 _ h)
  have y1:=g1.shut zj y0 ze (λb hb=>by subst hb;exact z6);have y2:∀(id:Nat) (o:AObj),S2.hp[id]?=some o->o.live=true->m2 id≠some l:=λid o ho hl hm=>(g1.own id o l ho hl hm).2.1 z6;have g1'':=y1.addI (l:=l) (by simpa using zq) o1 y2;have zo:(λb=>(I2 b/\¬b=l)\/b=l)=I2:=by
   funext b;apply propext;by_cases hb:b=l
   ·subst hb;simp[z6]
   simp[hb]
  rw[zo]at g1'';have y3:Fut S2.hp.length (w2.putObj l (.loop { r with state:= .busy })) (λb=>I2 b/\¬b=l) m2 (w2.putObj l (.loop { r with state:= .busy })) I2 m2:=⟨⟨λ_ h=>h.1,λ_ _=>rfl⟩,λ_ _=>rfl,λ_ _ h=>h⟩
  have zr:=g2.shut zj;have zt:(w2.putObj l (.loop { r with state:= .busy })).heap[l]?=some (.loop { r with state:= .busy }):=World.putObj_heap_same zq;refine wpIn_mono (hQ ⟨C.W0,C.I0,w2.putObj l (.loop { r with state:= .busy }),I2,m2,C.hE,some l⟩ a2 _ ⟨I2,m2,g1'',⟨zr.1,trivial,λt x hx=>by
   obtain⟨v,hv,hr⟩:=zr.2.2 t x hx;exact⟨v,hv,hr.mono y3 (zQ _)⟩⟩,g3,⟨.refl _ _ _ _,(λh=>(by cases h)),λl' hl'=>by cases hl';exact⟨z6,_,zt⟩⟩⟩) ?_
  rintro e4 a4 w4 ⟨S4,z7,I4,m4,k1,k2,k3,k4⟩;have zf:I4 l:=k4.fut.ext.sub l z6;have zk:w4.heap[l]?=some (.loop { r with state:= .busy }):=(k4.fut.ext.imm l z6).trans zt;have zu:l<w4.heap.size:=(yQ.1 zk).1;have key:∀jump:Option Code,S4.hp[q]?=some .dead->Rr jump S4.hp->∃v w',(Instr.endRound l jump).run P w4= .ok v w'/\K (a.put o.dst v) w':=λjump y4 y5=>by
   refine⟨_,_,run_endRound jump zk,?_⟩;generalize z1:({ ({ r with state:= .busy }:Loop)with state:=if jump.isNone=true then LoopState.ready else LoopState.done,pending:=jump }:Loop)=r5;have za:Shut w4 (w4.putObj l (.loop r5)) I4 (·=l):=⟨World.putObj_size,λb hb=>World.putObj_heap_other hb,λb o hb ho=>by subst hb;rw[zk]at ho;cases ho;rfl,λb es ck hb hm=>by subst hb;rw[zk]at hm;cases hm⟩
   have zp:Below C.W0.heap.size w4 (w4.putObj l (.loop r5)):=⟨rfl,rfl,rfl,by simp,λb hb=>World.putObj_heap_other (by omega)⟩
   have y6:=k1.shut za zp ze (λb hb=>by subst hb;exact zf);have zb:Fut S.hp.length w I m (w4.putObj l (.loop r5)) (λb=>I4 b/\¬b=l) m4:=by
    refine⟨⟨λb hb=>⟨k4.fut.ext.sub b (g4.fut.ext.sub b (.inl hb)),zn b hb⟩,λb hb=>?_⟩,λid hid=>?_,λb s hs=>?_⟩
    ·rw[za.same b (zn b hb),k4.fut.ext.imm b (g4.fut.ext.sub b (.inl hb)),zj.same b (zn b hb),g4.fut.ext.imm b (.inl hb)]
    ·exact(k4.fut.ids id hid).trans (g4.fut.ids id hid)
    exact(za.fut (m:=m) 0).shape _ _ (k4.fut.shape _ _ ((zj.fut (m:=m) 0).shape _ _ (g4.fut.shape _ _ hs)))
   have y7:m4 q=some l:=(zb.ids q hq).trans zh;have k1'':=y6.revive (o':= .lp jump.isNone jump zc sl' ps asg body) y4 y7 (by simpa using zu) o1 (λh=>h.2 rfl) (λid o ho hl hm=>(k1.own id o l ho hl hm).2.1 zf)
    ⟨l,r5,rfl,World.putObj_heap_same zu,by rw[<-z1],by rw[<-z1],by rw[<-z1];exact q3,by rw[<-z1];exact q4,by rw[<-z1];exact q5,by rw[<-z1];exact q6,λt x hx=>by
     obtain⟨v,hv,hr⟩:=q7 t x hx;exact⟨v,by rw[<-z1];exact hv,hr.mono zb k3⟩⟩
   exact hK _ _ _ (hR jump S4.hp y5) (St.value zm hk hE k1'' zb (by simpa using k3) (Qo hd) (.pure (.bool _))) (λh=>by cases h)
  cases e4 with
  |normal=>exact key none z7.1 z7.2
  |ret=>exact key (some .ret) z7.1 z7.2
  |exit id=>exact key (some (.exit id)) z7.1 z7.2
  |goto l=>exact z7.elim
  |panic c=>exact z7.elim
  |outgrown=>exact z7.elim
 |exit id=>exact hQ.elim
 |goto l=>exact hQ.elim
 |ret=>exact hQ.elim
 |panic c=>exact hQ.elim
 |outgrown=>exact hQ.elim
def Cc{P:Program}{a:Act}{w:World}{g:Operand}{l:Nat}{f:FuncId}{us:Array Value}(hg:a.eval g= .func (.func f) #[] us)(hc:Tu P f):
  ∃d:Deferred,(resolve a.eval (rangeCall g l) 0).run P w= .ok d w/\(invoke d.target d.args).run P w= .ok (.enter f (#[.func (.yield l) #[] #[]]++us)) w:=by
 obtain⟨fn,h1,h2,h3⟩:=hc;have z1:¬fn.name= "runtime.NumGoroutine" :=by simpa using h3
 refine⟨_,by simp only[resolve,hg];rfl,?_⟩;simp[Deferred.ofValue,invoke,callFunc,h1,z1,Act.eval];exact λhb=>absurd h2 (by simp[hb])
def g0u{C:Cx P}{a:Act}{w:World}{I:Nat->Prop}{m:Nat->Option Nat}{fnum:FuncId}{ps:List Tmp}{asg body:Code}(hE:FutC C k a w I m):∃(l:Nat) (mark:List Nat) (w1:World) (r:Loop),(Instr.enterLoop fnum a.tmps ps.toArray asg body C.ro).run P w= .ok (l,mark.map Mc) w1/\Below w.heap.size w w1/\w.heap.size<=l/\l<w1.heap.size/\w1.heap[l]?=some (.loop r)/\
   r.state= .ready/\r.pending=none/\r.params=ps.toArray/\r.assign=asg/\r.body=body/\r.tmps=a.tmps/\mark.Nodup/\∀D∈mark,w.heap.size<=D/\D<w1.heap.size/\D≠l/\w1.heap[D]?=some (.deferred (some [])):=by
 cases hro:C.ro with
 |none=>
  refine⟨_,[w.heap.size],_,({ state:= .ready,pending:=none,fn:=fnum,tmps:=a.tmps,params:=ps.toArray,assign:=asg,body:=body,defers:=w.heap.size }:Loop),run_enterLoop_outer _ _ _ _ _,⟨rfl,rfl,rfl,by simp;omega,λb hb=>?_⟩,by omega,by simp,?_,rfl,rfl,rfl,rfl,rfl,rfl,by simp,λD hD=>?_⟩
  ·simp only[World.alloc,vI];rw[if_neg (by simp;omega),if_neg (by omega)]
  ·have:=World.alloc_heap_new (w.alloc (.deferred (some []))) (.loop { state:= .ready,pending:=none,fn:=fnum,tmps:=a.tmps,params:=ps.toArray,assign:=asg,body:=body,defers:=w.heap.size });rw[World.size_alloc]at this;exact this
  obtain rfl:=List.mem_singleton.1 hD;refine⟨zQ _,by simp;omega,by omega,?_⟩;simp only[World.alloc,vI];simp
 |some l0=>obtain⟨_,r0,h0⟩:=hE.rnd l0 hro;refine⟨_,[],_,({ state:= .ready,pending:=none,fn:=fnum,tmps:=a.tmps,params:=ps.toArray,assign:=asg,body:=body,defers:=r0.defers }:Loop),run_enterLoop_inner h0 _ _ _ _ _,⟨rfl,rfl,rfl,by simp,λb hb=>?_⟩,zQ _,by simp,World.alloc_heap_new _ _,rfl,rfl,rfl,rfl,rfl,rfl,by simp,λD hD=>by cases hD⟩;simp only[World.alloc,vI];rw[if_neg (by omega)]
def x1i {C:Cx P} {a:Act} {w w1 w3:World} {I I':Nat->Prop} {m m':Nat->Option Nat} {l:Nat} {mark:List Nat} {H':List AObj} {rdy:Bool} {pend:Option Code} {ze:Nat} {sl':List (Nat×AV)} {ps':List Tmp} {asg' body':Code}
  (z6:WS C.W0 C.I0 w I m S.hp) (z8:E9 nt S.sl a w I m S.hp.length) (hk:k<=S.hp.length) (hE:FutC C k a w I m) (zi:Below w.heap.size w w1) (zj:w.heap.size<=l) (zf:mark.Nodup)
  (z1:∀D∈mark,w.heap.size<=D/\D<w1.heap.size/\D≠l/\w1.heap[D]?=some (.deferred (some []))) (g2:Fut S.hp.length w I m w1 (λb=>I b\/b∈mark) (upd m S.hp.length (some l)))
  (k1:WS C.W0 C.I0 w3 I' m' H') (k2:S.hp.length+1<=H'.length) (k3:Fut (S.hp.length+1) w1 (λb=>I b\/b∈mark) (upd m S.hp.length (some l)) w3 I' m') (za:H'[S.hp.length]?=some (.lp rdy pend ze sl' ps' asg' body')):
  ∃r3:Loop,w3.heap[l]?=some (.loop r3)/\r3.state≠ .busy/\r3.pending=pend/\St C nt k ⟨S.sl,H'.set S.hp.length .dead⟩ { a with defers:=mark.map Mc++a.defers } (w3.putObj l (.loop { r3 with state:= .exhausted })):=by
 obtain⟨b,r3,zb,z7,p1,p2,p3,p4,p5,p6,p7⟩:=k1.obj _ _ za;have zc:m' S.hp.length=some l:=(k3.ids _ (by omega)).trans (Q8 _ _ _);have zg:b=l:=by rw[zc]at zb;exact(Option.some.inj zb).symm
 rw[zg]at z7;refine⟨r3,z7,by rw[p1];cases rdy<;>simp,p2,?_⟩;generalize hO:Obj.loop { r3 with state:= .exhausted }=O;obtain⟨n1,n2⟩:=k1.set (w':=w3.putObj l O) (o':= .dead) za rfl zc (grownBy_putObj' _ _ _) (λs hs=>by
  unfold World.shape? at hs;rw[z7]at hs;cases hs) (λ_ _=>trivial)
 have hF:Fut S.hp.length w I m (w3.putObj l O) I' m':=(g2.trans (ug _) k3).trans (Nat.le_of_succ_le k2) n2;refine⟨I',m',n1,⟨z8.1,trivial,λt x hx=>?_⟩,by simp;omega,⟨hE.fut.trans hk hF,λzh=>?_,λl' hl'=>?_⟩⟩
 ·obtain⟨v,hv,hr⟩:=z8.2.2 t x hx;exact⟨v,hv,hr.mono hF (by simp;omega)⟩
 ·obtain⟨ds,d1,d2,d3⟩:=hE.defs zh;refine⟨mark++ds,by simp[d1],List.nodup_append.2 ⟨zf,d2,λx hx y hy e=>?_⟩,λD hD=>?_⟩
  ·subst e;have h1:=(z6.iw x (d3 x hy).1).1;have h2:=(z1 x hx).1;omega
  rcases zV.1 hD with hD|hD
  ·have zd:(λb=>I b\/b∈mark) D:= .inr hD;refine⟨k3.ext.sub D zd,⟨λhc=>?_,yL z6.below.size (z1 D hD).1⟩,?_⟩
   ·have h1:=(z6.iw D (hE.fut.ext.sub D hc)).1;have h2:=(z1 D hD).1;omega
   rw[World.putObj_heap_other (z1 D hD).2.2.1,k3.ext.imm D zd];exact(z1 D hD).2.2.2
  have:=d3 D hD;exact⟨hF.ext.sub D this.1,this.2.1,by rw[hF.ext.imm D this.1];exact this.2.2⟩
 obtain⟨h1,r',h2⟩:=hE.rnd l' hl';exact⟨hF.ext.sub l' h1,r',by rw[hF.ext.imm l' h1];exact h2⟩
set_option maxHeartbeats 2000000 in
def Ew {Q:Exit->AS->Prop} {g:Operand} {ps:List Tmp} {asg body:Code} {f:FuncId} {cs:List AV} (hg:rho S.sl g=some (.fn (.func f) [] cs)) {Rf:AV->List AObj->Prop}
  (hc:FC P f (.yld S.hp.length::cs) (S.hp++[.lp true none nt S.sl ps asg body]) Rf)
  (hR:∀(r:AV) (H':List AObj),Rf r H'->∃(rdy:Bool) (pend:Option Code) (zg:Nat) (sl':List (Nat×AV)) (ps':List Tmp) (z6 body':Code),H'[S.hp.length]?=some (.lp rdy pend zg sl' ps' z6 body')/\
   (match pend with
   |none=>Q .normal ⟨S.sl,H'.set S.hp.length .dead⟩
   |some c=>AWP P nt k c Q ⟨S.sl,H'.set S.hp.length .dead⟩)):AWP P nt k (.rangeFunc g ps.toArray asg body) Q S:=λC a w hst=>by
 obtain⟨I,m,z8,za,hk,hE⟩:=hst;obtain⟨vs,us,zi,e1,e2,e3,e4⟩:=(Qr za hg).fn_inv;have zj:vs= #[]:=Array.eq_empty_of_size_eq_zero (by simpa using e1);subst zj;refine wpIn_rangeFunc (F:=FW C.ro) λfnum _=>?_
 -- what entering the loop lays
 have zc:=g0u (C:=C) (fnum:=fnum) (ps:=ps) (asg:=asg) (body:=body) hE;obtain⟨l,mark,w1,r,zd,ze,zh,zk,zl,q1,q2,q3,q4,q5,q6,zm,zb⟩:=zc;have g0:=z8.push' (I':=λb=>I b\/b∈mark) ze (λ_ h=> .inl h) (λb hb=>by
  rcases hb with hb|hb
  ·exact⟨wd (z8.iw b hb).1 ze.size,.inl hb⟩
  exact⟨(zb b hb).2.1,.inr (zb b hb).1⟩) (some l) (λb hb=>by
  cases hb;exact⟨zh,zk,λhc=>by
   rcases hc with hc|hc
   ·have:=(z8.iw l hc).1;omega
   ·exact(zb l hc).2.2.1 rfl⟩) (.lp true none nt S.sl ps asg body) (λm' zn zv=>⟨l,r,rfl,zl,by rw[q1];rfl,q2,q3,q4,q5,by rw[q6];exact za.1,λt x hx=>by
   obtain⟨v,hv,hr⟩:=za.2.2 t x hx;exact⟨v,by rw[q6];exact hv,hr.mono zn (ug _)⟩⟩)
 obtain⟨g1,g2⟩:=g0;obtain⟨d,zo,zp⟩:=Cc (w:=w1) (l:=l) zi hc.1;refine⟨l,mark.map Mc,w1,d,w1,f,_,w1,zd,zo,λ_ _=>trivial,zp,(λh=>(by cases h)),L0 ?_⟩;have hlen:(S.hp++[AObj.lp true none nt S.sl ps asg body]).length=S.hp.length+1:=by simp
 refine(hc.2 C.W0 C.I0 w1 _ _ (#[.func (.yield l) #[] #[]]++us) C.hE g1 (by simp at e3 |-;omega) (λi v x hv hx=>?_)).mono ?_
 ·rcases i with _|i
  ·rw[y_ (by simp)]at hv;simp at hv hx;subst hv;subst hx;exact .yld _ _ (by simp) (Q8 _ _ _)
  rw[u6 (by simp)]at hv;simp at hv hx;exact(e4 i v x hv hx).mono g2 (by simp)
 rintro e w3 ⟨v,rv,H',I',m',zq,rfl,k1,k2,k3,k4⟩;rw[hlen]at k2 k3;obtain⟨rdy,pend,zg,sl',ps',z6,body',zr,z1⟩:=hR rv H' zq;obtain⟨r3,zt,zf,zu,z7⟩:=x1i z8 za hk hE ze zh zm zb g2 k1 k2 k3 zr;refine⟨pend,_,(run_endLoop zt zf).trans (congrArg (λx=>Result.ok x _) zu),?_⟩;cases pend with
 |none=>exact⟨_,z1,z7⟩
 |some c=>exact z1 C _ _ z7
end
end
section
open Go.Sort
def PVR.of_val{w:World}{I:Nat->Prop}{u:Value}{x:AV}(hx:x.val=some u):PVR w I u x:=by
 cases x<;>simp[AV.val]at hx<;>subst hx
 ·exact .bool _
 ·exact .int _ _
 exact .str _
structure RowOf (k:Nat) (xs:List AV) (F:Array Value):Prop where
 size:F.size=xs.length * k
 width:∀x∈xs,x.cells.length=k
 cell:∀(i:Nat) (x:AV),xs[i]?=some x->∀(j:Nat) (y:AV),x.cells[j]?=some y->y.val=some F[i * k+j]!
section
variable {W0:World} {I0:Nat->Prop} {w:World} {I:Nat->Prop} {m:Nat->Option Nat} {H:List AObj} {p b:Nat} {e:TypeId} {k:Nat} {xs:List AV} {F:Array Value}
def x1w(z6:WS W0 I0 w I m H)(ho:H[p]?=some (.arr e k xs))(hm:m p=some b)(hF:RowOf k xs F):Holds id w b 0 F/\b<w.heap.size:=by
 obtain⟨_,_,hb⟩:=z6.own p _ b ho rfl hm;refine⟨λj hj=>?_,hb⟩;rcases z6.obj p _ ho with⟨e1,_⟩|⟨b',cap,vs,z7,hh,q1,q2,q3,q4,hr⟩
 ·rw[hm]at e1;cases e1
 obtain rfl:b=b':=by rw[hm]at z7;exact Option.some.inj z7
 have hk:0<k:=by
  rcases vz k with h|h
  ·rw[hF.size,h]at hj;simp at hj
  exact h
 have z8:j<xs.length * k:=by rw[<-hF.size];exact hj
 have hi:j / k<xs.length:=Nat.div_lt_of_lt_mul (by rwa [td]at z8);have hc:=hF.width _ (zK hi);have z1:j % k<(xs[j / k]).cells.length:=by rw[hc];exact sk _ hk
 have za:j / k * k+j % k=j:=by rw[td];exact tT _ _
 obtain⟨v,hv,hp⟩:=hr (j / k) _ (zI hi) (j % k) _ (zI z1);have:=hp.val (hF.cell _ _ (zI hi) _ _ (zI z1));rw[za]at hv this;subst this;simp[World.cell?,World.frozen?,hh,hv]
def w1u(z8:WS W0 I0 w I m H)(ho:H[p]?=some (.arr e k xs))(hm:m p=some b)(hF:RowOf k xs F){z1:List AV}{F':Array Value}(hl:z1.length=xs.length)(z7:RowOf k z1 F')(n:Nat)(os:Array Obj):
  WS W0 I0 (grow (putRow id (Sort.ahead w n) b 0 F') os) I m (H.set p (.arr e k z1))/\Fut H.length w I m (grow (putRow id (Sort.ahead w n) b 0 F') os) I m:=by
 obtain⟨_,_,hb⟩:=z8.own p _ b ho rfl hm;rcases z8.obj p _ ho with⟨e1,_⟩|⟨b',cap,vs,zb,hh,q1,q2,q3,q4,hr⟩
 ·rw[hm]at e1;cases e1
 obtain rfl:b=b':=by rw[hm]at zb;exact Option.some.inj zb
 have z6:∀c,c<w.heap.size->(grow (putRow id (Sort.ahead w n) b 0 F') os).heap[c]? =if b=c then(w.heap[c]?).map (onCells (putCells id 0 F'))else w.heap[c]? :=by intro c hc;simp only[grow,putRow,mapBlock,Sort.ahead];rw[y_ (by simpa using hc),Array.getElem?_modify]
 have zc:(grow (putRow id (Sort.ahead w n) b 0 F') os).heap[b]?=some (.cells (putCells id 0 F' vs) e (0,0)):=by rw[z6 b hb,if_pos rfl,hh];rfl
 have hg:w.grownBy (grow (putRow id (Sort.ahead w n) b 0 F') os) (some b):=⟨rfl,rfl,rfl,by simp[grow,putRow,mapBlock,Sort.ahead],λc hc zd=>by
  rw[z6 c hc,if_neg (λh=>zd (by rw[h]))]⟩
 refine z8.set (o':= .arr e k z1) ho rfl hm hg (λs hs=>?_) (λm' hf=> .inr ⟨b,cap,putCells id 0 F' vs,rfl,zc,by omega,q2,by simp[putCells,q3],z7.width,λi x hx j y hy=>?_⟩)
 ·simp only[World.shape?,hh]at hs;simp only[World.shape?,zc];simpa[putCells]using hs
 have hi:i<z1.length:=(zB.1 hx).1;have hj:j<k:=by have:=z7.width x (zJ hx);rw[<-this];exact(zB.1 hy).1
 have ze:i * k+j<z1.length * k:=by have:=yF k (show i+1<=z1.length from hi);rw[yO,tV]at this;omega
 have za:i * k+j<vs.size:=by rw[q3];have:=yF k (show z1.length<=cap by omega);omega
 refine⟨F'[i * k+j]!,?_,PVR.of_val (z7.cell i x hx j y hy)⟩;have:=z7.size;simp only[putCells,Array.getElem?_mapIdx,Array.getElem?_eq_getElem za,wG];rw[if_pos (by omega)];rfl
def Hq(v:Value)(us:List Value): #[v]++us.toArray=⟨v::us⟩:=by simp
def w1l {P:Program} [Env P] {f:FuncId} {rest:List AV} (hc:Tu P f) {len:Nat} (zb:xs.length=len) (ho:H[p]?=some (.arr e k xs)) (hF:RowOf k xs F)
  (us:List Value) (hu:∀(w:World) (I:Nat->Prop) (m:Nat->Option Nat) (vs:List Value),vs.length=rest.length->(∀(i:Nat) (v:Value) (x:AV),vs[i]?=some v->rest[i]?=some x->VR w I m H.length v x)->vs=us)
  (Rx:List AV->Prop)
  (h:∀(b cap:Nat) (w:World),Holds id w b 0 F->b<w.heap.size->len<=cap->Calls P f (#[.slice (some ⟨b,0,none⟩) len cap]++us.toArray) w λen w'=>en= .returned (.tuple #[])/\∃(z1:List AV) (F':Array Value) (n:Nat) (os:Array Obj),Rx z1/\z1.length=xs.length/\RowOf k z1 F'/\w'=grow (putRow id (Sort.ahead w n) b 0 F') os)
  (h0:xs=[]->Rx []/\∀(w:World),Calls P f (#[.slice none 0 0]++us.toArray) w λen w'=>en= .returned (.tuple #[])/\w'=w):
  FC P f (.sl p k 0 len::rest) H (λr H'=>r= .tup []/\∃z1,Rx z1/\H'=H.set p (.arr e k z1)):=by
 refine⟨hc,λW0 I0 w I m vals hE z6 z8 hv=>?_⟩;rcases vals with⟨vals⟩
 cases vals with
 |nil=>simp at z8
 |cons v vs=>
  have zc:vs=us:=hu w I m vs (by simpa using z8) λi v x a b=>hv (i+1) v x (by simpa using a) (by simpa using b);subst zc;have zd:=hv 0 v _ rfl rfl;have tupR:∀(w:World) (I:Nat->Prop) (m:Nat->Option Nat) (n:Nat),VR w I m n (.tuple #[]) (.tup []):=λw I m n=> .tup _ _ rfl (λi v x a=>by simp at a);rcases zd.sl_inv with⟨b,cap,t,hb,hn,zg,hle,hmax,z7⟩|⟨hb,hn,_,ze,z7⟩|⟨_,_,hlo,_,_⟩
  ·subst z7;obtain⟨g1,g2⟩:=x1w z6 ho hb hF;have:=h b cap w g1 g2 hle;simp only[uP];refine Calls.mono (by rw[Hq]at this;exact this) ?_;rintro en w' ⟨rfl,z1,F',n,os,hx,hl,zf,rfl⟩;obtain⟨k1,k2⟩:=w1u z6 ho hb hF hl zf n os;exact⟨_,_,_,I,m,⟨rfl,z1,hx,rfl⟩,rfl,k1,by simp,k2,tupR _ _ _ _⟩
  ·subst z7;have za:xs=[]:=by cases xs with|nil=>rfl|cons=>simp at zb;omega
   obtain⟨r0,r1⟩:=h0 za;subst ze;refine Calls.mono (by have:=r1 w;rw[Hq]at this;exact this) ?_;rintro en w' ⟨rfl,rfl⟩;refine⟨_,_,H,I,m,⟨rfl,[],r0,?_⟩,rfl,z6,zQ _,.refl _ _ _ _,tupR _ _ _ _⟩;rw[<-za];exact(xN λi=>by
    by_cases hi:i=p
    ·subst hi;rw[ho,zL (zB.1 ho).1]
    rw[zE (λh=>hi h.symm)])
  omega
end
end
section
open Go.RowKit
section
variable {P:Program} [Env P] {nt k:Nat} {Q:Exit->AS->Prop}
def Qz {c:Code} {sl:List (Nat×AV)} {H:List AObj} (t e sz:Nat) (ht:look sl t=some .nils)
  (h:AWP P nt k c Q ⟨put sl t (.sl H.length sz 0 0),H++[.arr e sz []]⟩):AWP P nt k c Q ⟨sl,H⟩:=λC a w hs=>by
 obtain⟨I,m,hw,z1,hk,hf⟩:=hs;obtain⟨g1,g2⟩:=hw.push (Below.refl _ _) none (λb e=>by cases e) (.arr e sz []) (λm' _ _=> .inl ⟨rfl,rfl⟩);refine h C a w ⟨I,upd m H.length none,g1,⟨z1.1,z1.2.1,λs x hx=>?_⟩,by simp at hk |-;omega,hf.trans hk g2⟩;simp only[S5]at hx;by_cases hst:s=t
 ·rw[if_pos hst]at hx;cases hx;obtain⟨v,hv,hr⟩:=z1.2.2 t _ ht;rw[hst];have:=hr.nils_inv;subst this;exact⟨_,hv,.slnone H.length sz (by simp) (Q8 ..)⟩
 rw[if_neg hst]at hx;obtain⟨v,hv,hr⟩:=z1.2.2 s x hx;refine⟨v,hv,?_⟩;have:=hr.mono (n':=(H++[AObj.arr e sz []]).length) g2 (by simp);simpa using this
def w0x {c:Code} {sl:List (Nat×AV)} {H:List AObj} (t:Nat) (ht:look sl t=some .nils)
  (h:AWP P nt k c Q ⟨put sl t (.list []),H⟩):AWP P nt k c Q ⟨sl,H⟩:=λC a w hs=>by
 obtain⟨I,m,hw,z1,hk,hf⟩:=hs;refine h C a w ⟨I,m,hw,⟨z1.1,z1.2.1,λs x hx=>?_⟩,hk,hf⟩;simp only[S5]at hx;by_cases hst:s=t
 ·rw[if_pos hst]at hx;cases hx;obtain⟨v,hv,hr⟩:=z1.2.2 t _ ht;rw[hst];have:=hr.nils_inv;subst this;exact⟨_,hv,.pure (.list none 0 0 0 [] (λ_ _=> .bool false) rfl (zQ _) (by simp[maxLen]) (λx hx=>by simp at hx) (λh=>by simp at h) (λi x hx=>by simp at hx))⟩
 rw[if_neg hst]at hx;exact z1.2.2 s x hx
def F7{cd:Code}{sl:List (Nat×AV)}{H:List AObj}(i:Nat){e c:Nat}{xs:List AV}(hi:H[i]?=some (.arr e c xs))(h:O9 P nt k cd Q ⟨sl.map λp=>(p.1,p.2.fz i c xs),(H.set i .dead).map (AObj.fz i c xs)⟩):O9 P nt k cd Q ⟨sl,H⟩:=
 λC a w hs=>h C a w (hs.freeze i hi)
end
end
end Go.Abs
