/- Part Vb of the proof: steps on the way to the last part. No condition. -/
import Derived.Test.YtjmkolhkojgjpaaGreatDoorVa
import Derived.Lib.SliceRun
import Derived.Laws.CopyRow
import Derived.Lib.AppendZeros
import Derived.Lib.Overlaps
import Derived.ProofKit
import Derived.OpenShut
import Derived.Carry
import Derived.Deep.DeepHandedRow
import Derived.Lib.ConvBytes
import Derived.Laws.BytesString
import Derived.Laws.IdiomStrings
import Derived.Lib.BufferRead
import Derived.Lib.AppendStr
import Derived.Lib.Builder
import Derived.Lib.UnsafeStr
import Derived.Laws.Externs
import Derived.RangeFuncOwn
import Derived.RangeFuncNested
import Derived.Shelf.GgSortFunc.RowK
import Derived.Shelf.SlSortCmp.WholeK
import Derived.Shelf.SlSortCmp.NoneTotal
set_option linter.all false
open List renaming getElem?_eq_some_iff->zE,getElem?_append_left->zI,getElem?_set_self->zS,getElem?_set_ne->zH,getElem?_append_right->zO,length_set->wI,getElem?_take->xG,getElem?_drop->xM,range->y_,getElem?_range->uG,getElem?_map->z_,mem_iff_getElem?->yQ,getElem_mem->zT,getElem?_eq_getElem->zP,all_eq_true->yE,mem_of_getElem?->zL,eq_nil_of_length_eq_zero->wp,size_toArray->xJ,nil_append->u5,mem_append->yB,all_cons->uK,map_cons->xR,mem_map->zU,length_map->yL,ext_getElem?->xQ,replicate->yH,take_zero->wD,take_of_length_le->zZ,getElem?_append->ud,getElem?_cons_zero->wM,drop_eq_nil_of_le->tq,drop_drop->sk,take_append_drop->xW,range'->ur,range'_succ->uy,mem_cons->yO,range_eq_range'->uM,append_nil->xO
open Nat renaming lt_of_lt_of_le->xY,add_mul->yS,mul_le_mul_right->yK,add_comm->sC,eq_zero_or_pos->vA,mod_lt->sJ,mul_comm->tw,div_add_mod->si,le_refl->zW,zero_add->wA,zero_mul->tc,min->vH,min_le_left->sj,min_le_right->tY,min_zero->sD,one_mul->sm,le_trans->yW,le_succ->uw
open Option renaming getD_some->ww,map_some->wP,map_eq_some_iff->zX,bind_eq_some_iff->xK
open Array renaming size_append->wO,getElem?_append_left->yY,getElem?_append_right->vL,mem_of_getElem?->uC,replicate->ue,getElem?_eq_some_iff->yX,getElem?_push->vS
open Bool renaming and_eq_true->yJ
set_option maxRecDepth 100000
namespace Go.Abs
open Go
section
open Go.RowKit
section
variable {P:Program} [Env P] {T:TT} {nt k:Nat} {S:AS} {ops:Array Oper} {o:Oper} {R:AS->Prop}
section
variable {W0 w w':World} {I0 I:Nat->Prop} {m:Nat->Option Nat} {H:List AObj}
def WS.adopt (h:WS W0 I0 w I m H) {id:Nat} {o o':AObj} {b:Nat} (ho:H[id]?=some o) (hl:o.live=true) (hm:m id=some b) (hg:w.grownBy w' (some b))
  (z7:∀s,w.shape? b=some s->w'.shape? b=some s) (hO:∀m',Fut H.length w I m w' I m'->Uo w' I m' (H.length+1) (some b) o'):
  WS W0 I0 w' I (upd m H.length (some b)) (H.set id .dead++[o'])/\Fut H.length w I m w' I (upd m H.length (some b)):=by
 obtain⟨z8,z6,za⟩:=h.own id o b ho hl hm;have hid:id<H.length:=(zE.1 ho).1;have hf:Fut H.length w I m w' I (upd m H.length (some b)):=⟨⟨λ_ h=>h,λc hc=>hg.block c (h.iw c hc).1 (λe=>z6 (by injection e with e;exact e▸hc))⟩,λ_ hid=>Uh hid,λc s hs=>by
  by_cases hcb:c=b
  ·subst hcb;exact z7 s hs
  rw[Rt (hg.block c (Gp hs) (λe=>hcb (by injection e)))];exact hs⟩
 have z1:∀(k:Nat) (p:AObj),(H.set id .dead++[o'])[k]?=some p->(k<H.length/\p= .dead)\/(k<H.length/\k≠id/\H[k]?=some p)\/(k=H.length/\p=o'):=λk p hp=>by
  rcases Nat.lt_trichotomy k H.length with h1|h1|h1
  ·rw[zI (by simpa using h1)]at hp;by_cases hk:k=id
   ·subst hk;rw[zS h1]at hp;exact .inl ⟨h1,(Option.some.inj hp).symm⟩
   rw[zH (by omega)]at hp;exact .inr (.inl ⟨h1,hk,hp⟩)
  ·subst h1;rw[zO (by simp)]at hp;simp at hp;exact .inr (.inr ⟨rfl,hp.symm⟩)
  have:=(zE.1 hp).1;simp at this;omega
 refine⟨⟨h.below.grown hg h.below.size (λk hk=>by injection hk with hk;omega),h.i0,λc hc=>⟨xY (h.iw c hc).1 hg.size,(h.iw c hc).2⟩,λk p hp=>?_,λk p c hp lp mc=>?_,λi j oi oj c hi hj li lj mi mj=>?_⟩,hf⟩
 ·rw[List.length_append,wI,List.length_singleton];rcases z1 k p hp with⟨h1,rfl⟩|⟨h1,h2,h3⟩|⟨rfl,rfl⟩
  ·trivial
  ·rw[Uh h1];by_cases hlp:p.live=true
   ·exact(h.obj k p h3).mono hf (by omega) (λ_ c hc=>hg.block c (h.own k p c h3 hlp hc).2.2 (λe=>h2 (by injection e with e;subst e;exact h.inj k id p o c h3 ho hlp hl hc hm)))
   exact(h.obj k p h3).mono hf (by omega) (λhl'=>absurd hl' hlp)
  rw[Q7];exact hO _ hf
 ·rcases z1 k p hp with⟨h1,rfl⟩|⟨h1,h2,h3⟩|⟨rfl,rfl⟩
  ·simp[AObj.live]at lp
  ·rw[Uh h1]at mc;obtain⟨h3,h4,h5⟩:=h.own k p c h3 lp mc;exact⟨h3,h4,xY h5 hg.size⟩
  rw[Q7]at mc;cases mc;exact⟨z8,z6,xY za hg.size⟩
 rcases z1 i oi hi with⟨h1,rfl⟩|⟨h1,h2,h3⟩|⟨rfl,rfl⟩
 ·simp[AObj.live]at li
 ·rcases z1 j oj hj with⟨g1,rfl⟩|⟨g1,g2,g3⟩|⟨rfl,rfl⟩
  ·simp[AObj.live]at lj
  ·rw[Uh h1]at mi;rw[Uh g1]at mj;exact h.inj i j oi oj c h3 g3 li lj mi mj
  rw[Uh h1]at mi;rw[Q7]at mj;cases mj;exact absurd (h.inj i id oi o b h3 ho li hl mi hm) h2
 rcases z1 j oj hj with⟨g1,rfl⟩|⟨g1,g2,g3⟩|⟨rfl,rfl⟩
 ·simp[AObj.live]at lj
 ·rw[Uh g1]at mj;rw[Q7]at mi;cases mi;exact absurd (h.inj j id oj o b g3 ho lj hl mj hm) g2
 rfl
def Se(H:List AObj):AV->Option (List AV)
 | .list ys=>some ys
 | .sl id c lo len=>match H[id]? with
  |some (.arr _ c' xs)=>if c=c'/\lo+len<=xs.length then some ((xs.drop lo).take len)else none
  |_=>none
 | .nils=>some []
 |_=>none
def Ip(hw:WS W0 I0 w I m H){v:Value}{x:AV}{ys:List AV}(hv:VR w I m H.length v x)(h:Se H x=some ys):
  ∃(ao:Option Addr) (cap:Nat) (u:Nat->Nat->Value),v= .slice ao ys.length cap/\
   (0<ys.length->∃ad,ao=some ad/\∃c,(∀y∈ys,y.cells.length=c)/\∀i j,i<ys.length->j<c->w.cell? (ad.add (i * c+j))=some (u i j))/\
   (∀(i:Nat) (x:AV),ys[i]?=some x->∀(j:Nat) (y:AV),x.cells[j]?=some y->PVR w I (u i j) y):=by
 cases x with
 |list zs=>simp only[Se,Option.some.injEq]at h;subst h;obtain⟨a,cap,c,u,rfl,_,_,hc,ha,hu⟩:=hv.list_inv.list_inv;exact⟨a,cap,u,rfl,λh0=>by obtain⟨ad,e,_,hcell⟩:=ha h0;exact⟨ad,e,c,hc,hcell⟩,hu⟩
 |nils=>simp only[Se,Option.some.injEq]at h;subst h;obtain rfl:=hv.nils_inv;exact⟨none,0,λ_ _=>undef,rfl,λh0=>by simp at h0,λi x hx=>by simp at hx⟩
 |sl id c lo len=>
  simp only[Se]at h;split at h
  ·rename_i e c' xs ho;split at h
   ·rename_i hc;obtain⟨rfl,hl⟩:=hc;simp only[Option.some.injEq]at h;subst h;have hlen:((xs.drop lo).take len).length=len:=by simp;omega
    rcases hv.sl_inv with⟨b,cap,t,hb,hn,hs,hl',hmax,rfl⟩|⟨hb,hn,rfl,rfl,rfl⟩|⟨ad,hn,hlo,rfl,rfl⟩
    ·rcases hw.obj id _ ho with⟨e1,rfl⟩|⟨b',z1,vs,z6,hh,q1,q2,q3,q4,hr⟩
     ·rw[hb]at e1;cases e1
     obtain rfl:b=b':=by rw[hb]at z6;exact Option.some.inj z6
     refine⟨_,cap,λi j=>vs.getD ((lo+i) * c+j) undef,by rw[hlen],λ_=>⟨_,rfl,c,λx hx=>q4 x (List.mem_of_mem_drop (List.mem_of_mem_take hx)),λi j hi hj=>?_⟩,λi x hx j z hz=>?_⟩
     ·rw[hlen]at hi;rw[Addr.add_lit,cell_of_row w b _ vs e (0,0) hh];simp only[yS];have z7:(lo+i) * c+j<vs.size:=by rw[q3];have:(lo+i+1) * c<=z1 * c:=yK c (by omega);rw[yS (lo+i)]at this;omega
      rw[yS]at z7;rw[show lo * c+(i * c+j)=lo * c+i * c+j by omega];simp[z7]
     rw[xG]at hx;split at hx
     ·rw[xM]at hx;obtain⟨v,hv,hp⟩:=hr (lo+i) x hx j z hz;simp only[Array.getD_eq_getD_getElem?,hv,ww];exact hp
     cases hx
    ·exact⟨none,0,λ_ _=>undef,by rw[hlen],λh0=>by simp at h0,λi x hx=>by simp at hx⟩
    exact⟨some ad,0,λ_ _=>undef,by rw[hlen],λh0=>by simp at h0,λi x hx=>by simp at hx⟩
   cases h
  cases h
 |_=>simp[Se]at h
end
def Qo(u:Nat->Nat->Value)(n c:Nat):List Value:=(y_ (n * c)).map λq=>u (q / c) (q % c)
def Qr(u:Nat->Nat->Value)(n c:Nat):(Qo u n c).length=n * c:=by simp[Qo]
def Yn(u:Nat->Nat->Value)(n c i j:Nat)(hi:i<n)(hj:j<c):(Qo u n c)[i * c+j]?=some (u i j):=by
 have z1:i * c+j<n * c:=by have:(i+1) * c<=n * c:=yK c hi;rw[yS]at this;omega
 have h1:(i * c+j) / c=i:=by rw[sC,Nat.add_mul_div_right _ _ (by omega),Nat.div_eq_of_lt hj];omega
 have h2:(i * c+j) % c=j:=by rw[sC,Nat.add_mul_mod_self_right,Nat.mod_eq_of_lt hj]
 simp[Qo,uG z1,h1,h2]
def Eu(u:Nat->Nat->Value)(n c q:Nat)(v:Value)(h:(Qo u n c)[q]?=some v):q<n * c/\0<c/\q / c<n/\q % c<c/\q=q / c * c+q % c/\v=u (q / c) (q % c):=by
 have z1:q<n * c:=by have:=(zE.1 h).1;rwa [Qr]at this
 have hc:0<c:=by
  rcases vA c with h0|h0
  ·subst h0;simp at z1
  exact h0
 refine⟨z1,hc,(Nat.div_lt_iff_lt_mul hc).2 z1,sJ _ hc,by rw[tw];exact(si q c).symm,?_⟩;simp only[Qo,z_,uG z1,wP,Option.some.injEq]at h;exact h.symm
def Aq(S:AS)(e:TypeId)(c:Nat):AV->Option (List AV×List AObj)
 | .nils=>some ([],S.hp)
 | .sl id c' 0 len=>match S.hp[id]? with
  |some (.arr e' c'' xs)=>if c'=c/\c''=c/\e'=e/\len=xs.length then some (xs,S.hp.set id .dead)else none
  |_=>none
 |_=>none
def Bg (hT:TOk P T) (hw:Qt ops S o=some true) {s x:Operand} {t e:TypeId} (ho:o.op= .call ⟨.builtin .append,#[s,x],#[t,t]⟩) {it ei:TI} (ht:look T t=some it) (hit:it.desc= .slice e) (he:look T e=some ei)
  (hz:ei.zero.cells.size=ei.size) (y2:0<ei.size) {sv xv:AV} (hs:rho S.sl s=some sv) (hx:rho S.sl x=some xv) {xs ys:List AV} {H1:List AObj} (hb:Aq S e ei.size sv=some (xs,H1)) (hy:Se S.hp xv=some ys)
  (zw:∀y∈ys,y.cells.length=ei.size/\y.cells.all AV.leaf=true) (hbound:(xs.length+ys.length) * ei.bytes<=140737488355328) (hlen:xs.length+ys.length<=9223372036854775807) (hd:Wm nt o=true)
  (hR:R (({ S with hp:=H1++[.arr e ei.size (xs++ys)] }:AS).putD o.dst (.sl S.hp.length ei.size 0 (xs.length+ys.length)))):We P nt k true ops o S R:=λC a w K Q hst hK=>by
 unfold OpW;rw[if_pos (hst.wanted hw)];obtain⟨I,m,zc,zr,hk,hE⟩:=hst;obtain⟨ao,cap,u,zk,hcell,zx⟩:=Ip zc (Qq zr hx) hy;have zy:=Qq zr hs;obtain⟨ti,zl,tz,ts,tb⟩:=hT.info he;have zi:=hT.und ht;rw[hit]at zi;have zm:H1.length=S.hp.length:=by
  unfold Aq at hb;split at hb
  ·simp only[Option.some.injEq,Prod.mk.injEq]at hb;rw[<-hb.2]
  ·split at hb
   ·split at hb
    ·simp only[Option.some.injEq,Prod.mk.injEq]at hb;rw[<-hb.2];simp
    cases hb
   cases hb
  cases hb
 -- what the run comes to decides all
 have fin:∀(v:Value) (w':World) (m':Nat->Option Nat),(Builtin.append_ #[t,t] o.type #[a.eval s,a.eval x]).run P w= .ok v w'->WS C.W0 C.I0 w' I m' (H1++[.arr e ei.size (xs++ys)])->Fut S.hp.length w I m w' I m'->
   VR w' I m' (S.hp.length+1) v (.sl S.hp.length ei.size 0 (xs.length+ys.length))->wpA P o a w K Q:=λv w' m' z6 g1 g2 g3=>by
  unfold wpA;have:(execOp a.eval o).run P w= .ok (.value v) w':=by simp[execOp,ho,resolve,invoke,builtin,z6]
  rw[this];exact hK _ _ w' hR (St.value zr hk hE g1 g2 (by simp[zm]) (Qm hd) (by simpa[zm]using g3)) (λe=>by cases e)
 -- nothing is appended
 have zero:ys=[]->∀(b0:Option Addr) (n0 c0:Nat),n0<=c0->a.eval s= .slice b0 n0 c0->(Builtin.append_ #[t,t] o.type #[a.eval s,a.eval x]).run P w= .ok (.slice b0 n0 c0) w:=λz8 b0 n0 c0 hle zn=>by rw[zn,zk,z8];cases ao<;>cases b0<;>simp[Builtin.append_,run_underlying zi,sizeOf,typeInfo,zl,Builtin.lenOf,Builtin.firstCells,hle,loadCells,loadCellsFrom,storeCells]
 -- a new row
 have newrow:∀(z7:Nat) (cs:Array Value),xs.length+ys.length<=z7->z7<=maxLen->cs.size=z7 * ei.size->
   (∀(i:Nat) (z:AV),(xs++ys)[i]?=some z->z.cells.length=ei.size/\∀(j:Nat) (y:AV),z.cells[j]?=some y->∃v,cs[i * ei.size+j]?=some v/\PVR w I v y)->
   (Builtin.append_ #[t,t] o.type #[a.eval s,a.eval x]).run P w= .ok (.slice (some ⟨w.heap.size,0,none⟩) (xs.length+ys.length) z7) (w.drew.alloc (.cells cs e))->WS C.W0 C.I0 w I m H1->wpA P o a w K Q:=λz7 cs h1 h2 h3 h4 z6 zo=>by
  have y3:Below w.heap.size w (w.drew.alloc (.cells cs e)):=(Below.refl _ _).drew.alloc (zW _) _;obtain⟨g1,g2⟩:=zo.push y3 (some w.heap.size) (λb e=>by injection e with e;subst e;simp) (.arr e ei.size (xs++ys)) (λm' hf hm=> .inr ⟨w.heap.size,z7,cs,rfl,heap_alloc_new w.drew _,by simpa using h1,h2,h3,
   λz zd=>by obtain⟨i,hi⟩:=yQ.1 zd;exact(h4 i z hi).1,λi z hi j y hy=>by obtain⟨v,q1,q2⟩:=(h4 i z hi).2 j y hy;exact⟨v,q1,q2.mono hf.ext⟩⟩)
  rw[zm]at g1 g2;refine fin _ _ _ z6 g1 g2 ?_;have:=VR.sl (w:=w.drew.alloc (.cells cs e)) (I:=I) (m:=upd m S.hp.length (some w.heap.size)) (n:=S.hp.length+1) S.hp.length ei.size 0 (xs.length+ys.length) z7 w.heap.size e (by omega) (Q7 _ _ _)
   (by have:=heap_alloc_new w.drew (.cells cs e);simp only[World.size_drew]at this;simp only[World.shape?,this,h3,wA]) h1 (by omega)
  simpa using this
 have zg:∀y∈ys,y.cells.length=ei.size:=λy hy=>(zw y hy).1;have news:0<ys.length->∃ad,ao=some ad/\∀(q:Nat) (v:Value),(Qo u ys.length ei.size)[q]?=some v->w.cell? (ad.add q)=some v:=λh0=>by
  obtain⟨ad,e1,c,h1,h2⟩:=hcell h0;have hc:c=ei.size:=by rw[<-h1 _ (zT h0),zg _ (zT h0)]
  subst hc;refine⟨ad,e1,λq v hq=>?_⟩;obtain⟨_,_,q1,q2,q3,rfl⟩:=Eu _ _ _ _ _ hq;have:=h2 _ _ q1 q2;rw[<-q3]at this;exact this
 have one:∀v∈Qo u ys.length ei.size,v.oneCell'=true:=λv hv=>by obtain⟨q,hq⟩:=yQ.1 hv;obtain⟨_,_,q1,q2,q3,rfl⟩:=Eu _ _ _ _ _ hq;have y4:ys[q / ei.size]?=some ys[q / ei.size]:=zP q1;have yb:=zg _ (zT q1);have zz:(ys[q / ei.size]).cells[q % ei.size]?=some ((ys[q / ei.size]).cells[q % ei.size]'(by omega)):=zP (by omega);exact(VR.pure (m:=m) (n:=0) (zx _ _ y4 _ _ zz)).oneCell (yE.1 (zw _ (zT q1)).2 _ (zL zz))
 have yrel:∀(i:Nat) (z:AV),ys[i]?=some z->∀(j:Nat) (y:AV),z.cells[j]?=some y->(Qo u ys.length ei.size)[i * ei.size+j]?=some (u i j)/\PVR w I (u i j) y:=λi z zd j y hy=>by have hi:=(zE.1 zd).1;have hj:=(zE.1 hy).1;rw[zg z (zL zd)]at hj;exact⟨Yn _ _ _ _ _ hi hj,zx i z zd j y hy⟩
 have capw:∀zp,xs.length+ys.length<=grownCap w (xs.length+ys.length) zp e/\grownCap w (xs.length+ys.length) zp e<=maxLen:=λzp=>
  ⟨grownCap_ge _ _ _ _,grownCap_le_maxLen w _ zp e (by unfold maxLen;omega)⟩
 have fromNone:a.eval s= .slice none 0 0->xs=[]->WS C.W0 C.I0 w I m H1->wpA P o a w K Q:=λzn y5 zo=>by
  subst y5;rcases vA ys.length with h0|h0
  ·have z8:=wp h0;have z6:=zero z8 none 0 0 (zW _) zn;obtain⟨g1,g2⟩:=zo.push (Below.refl _ _) none (λb e=>by cases e) (.arr e ei.size ([]++ys)) (λm' _ _=> .inl ⟨rfl,by simp[z8]⟩);rw[zm]at g1 g2;refine fin _ _ _ z6 g1 g2 ?_;rw[h0];exact .slnone _ _ (by omega) (Q7 _ _ _)
  obtain⟨ad,rfl,za⟩:=news h0;have z6:=run_append_nil (P:=P) w t o.type e ti ei.zero zi zl tz ad ys.length cap (Qo u ys.length ei.size) (by rw[Qr,ts]) za h0 (by simp at hlen;omega) (by rw[tb];simp at hbound;omega);obtain⟨c1,c2⟩:=capw 0;simp only[List.length_nil,wA]at c1 c2;refine newrow (grownCap w ys.length 0 e) _ (by simpa using c1) c2 ?_ ?_ (by rw[zn,zk];simpa using z6) zo
  ·simp only[wO,xJ,Qr,size_zeroCells,hz,<-yS]
   congr 1;omega
  intro i z hi;simp only[u5]at hi;refine⟨zg z (zL hi),λj y hy=>?_⟩;obtain⟨q1,q2⟩:=yrel i z hi j y hy;exact⟨_,by rw[yY (by simpa using(zE.1 q1).1)];simpa using q1,q2⟩
 unfold Aq at hb;split at hb
 ·simp only[Option.some.injEq,Prod.mk.injEq]at hb;obtain⟨rfl,rfl⟩:=hb;exact fromNone zy.nils_inv rfl zc
 ·rename_i id c' len;split at hb
  ·rename_i e' c'' z1 zq;split at hb
   ·rename_i hc;obtain⟨rfl,rfl,rfl,rfl⟩:=hc;simp only[Option.some.injEq,Prod.mk.injEq]at hb;obtain⟨rfl,rfl⟩:=hb;have zb:=zc.kill id;rcases zy.sl_inv with⟨b,cp,t',hb,hn,zt,hl',hmax,zh⟩|⟨hb,hn,_,yc,zh⟩|⟨ad,hn,hlo,_,_⟩
    ·rcases zc.obj id _ zq with⟨e1,_⟩|⟨b',y6,vs,zj,hh,q1,q2,q3,q4,hr⟩
     ·rw[hb]at e1;cases e1
     obtain rfl:b=b':=by rw[hb]at zj;exact Option.some.inj zj
     have y7:cp=y6:=by
      have:w.shape? b=some (e',vs.size):=by simp[World.shape?,hh]
      rw[this]at zt;simp only[Option.some.injEq,Prod.mk.injEq,wA,q3]at zt;exact(Nat.eq_of_mul_eq_mul_right y2 zt.2).symm
     subst y7;simp only[tc]at zh;have xrel:∀(i:Nat) (z:AV),z1[i]?=some z->∀j,j<ei.size->i * ei.size+j<z1.length * ei.size:=λi z hi j hj=>by have:(i+1) * ei.size<=z1.length * ei.size:=yK _ (zE.1 hi).1;rw[yS]at this;omega
     have y8:z1.length * ei.size<=vs.size:=by rw[q3];exact yK _ q1
     have y0:∀(w':World),w'.shape? b=some (e',cp * ei.size)->z1.length+ys.length<=cp->VR w' I (upd m S.hp.length (some b)) (S.hp.length+1) (.slice (some ⟨b,0,none⟩) (z1.length+ys.length) cp) (.sl S.hp.length ei.size 0 (z1.length+ys.length)):=λw' y9 hle=>by have:=VR.sl (w:=w') (I:=I) (m:=upd m S.hp.length (some b)) (n:=S.hp.length+1) S.hp.length ei.size 0 (z1.length+ys.length) cp b e' (by omega) (Q7 _ _ _) (by simpa using y9) hle (by omega);simpa using this
     rcases vA ys.length with h0|h0
     ·have z8:=wp h0;have z6:=zero z8 _ _ _ hl' zh;obtain⟨g1,g2⟩:=zc.adopt (w':=w) (o':= .arr e' ei.size (z1++ys)) zq rfl hb (World.grownBy.refl _ _) (λ_ h=>h) (λm' hf=> .inr ⟨b,cp,vs,rfl,hh,by simp[z8,q1],q2,q3,by simpa[z8]using q4,by simpa[z8]using hr⟩);refine fin _ _ _ z6 g1 g2 ?_;have:=y0 w (by simp[World.shape?,hh,q3]) (by omega);rw[h0]at this |-;exact this
     obtain⟨ad,rfl,za⟩:=news h0;by_cases hroom:z1.length+ys.length<=cp
     ·have ze:z1.length * ti.size+(Qo u ys.length ei.size).length<=vs.size:=by rw[Qr,ts,q3,<-yS];exact yK _ hroom
      have z6:=run_append_room (P:=P) w t o.type e' ti zi zl b z1.length cp vs hh ad ys.length cap (Qo u ys.length ei.size) (by rw[Qr,ts]) za one hroom ze;rw[ts]at z6 ze;have zu:(vs.toList.take (z1.length * ei.size)++Qo u ys.length ei.size++vs.toList.drop (z1.length * ei.size+(Qo u ys.length ei.size).length)).toArray=spl vs (z1.length * ei.size) (Qo u ys.length ei.size).toArray:=by simp[spl]
      rw[zu]at z6;have y1:z1.length * ei.size+(Qo u ys.length ei.size).toArray.size<=vs.size:=by simpa using ze
      have zf:=T0 vs (z1.length * ei.size) (Qo u ys.length ei.size).toArray y1;obtain⟨g1,g2⟩:=zc.adopt (o':= .arr e' ei.size (z1++ys)) zq rfl hb (Em w b (spl vs (z1.length * ei.size) (Qo u ys.length ei.size).toArray)) (Rk hh zf)
       (λm' hf=> .inr ⟨b,cp,_,rfl,setRow_heap w b vs _ e' _ hh,by simpa using hroom,q2,by rw[zf,q3],λz zd=>by
         rcases yB.1 zd with h1|h1
         ·exact q4 z h1
         ·exact zg z h1,λi z hi j y hy=>by
         rw[Af _ _ _ _ y1];by_cases hix:i<z1.length
         ·rw[zI hix]at hi;have hj:j<ei.size:=by have:=(zE.1 hy).1;rw[q4 z (zL hi)]at this;exact this
          have:=xrel i z hi j hj;rw[if_neg (by omega)];obtain⟨v,p1,p2⟩:=hr i z hi j y hy;exact⟨v,p1,p2.mono hf.ext⟩
         rw[zO (by omega)]at hi;obtain⟨p1,p2⟩:=yrel _ z hi j y hy;have p3:=(zE.1 p1).1;have p4:i * ei.size=z1.length * ei.size+(i - z1.length) * ei.size:=by rw[<-yS];congr 1;omega
         rw[if_pos (by simp only[xJ];omega)];exact⟨_,by rw[show i * ei.size+j - z1.length * ei.size=(i - z1.length) * ei.size+j by omega];simpa using p1,p2.mono hf.ext⟩⟩)
      refine fin _ _ _ (by rw[zh,zk];exact z6) g1 g2 (y0 _ ?_ hroom);simp[World.shape?,setRow_heap w b vs _ e' _ hh,zf,q3]
     have holds:∀(j:Nat) (v:Value),(vs.toList.take (z1.length * ei.size))[j]?=some v->w.cell? ((⟨b,0,none⟩:Addr).add j)=some v:=λj v hj=>by
      rw[Addr.add_lit,wA,cell_of_row w b j vs e' (0,0) hh];rw[xG]at hj;split at hj
      ·simpa using hj
      cases hj
     have z6:=run_append_grow (P:=P) w t o.type e' ti ei.zero zi zl tz ⟨b,0,none⟩ z1.length cp (vs.toList.take (z1.length * ei.size)) (by rw[ts];simp;omega) holds ad ys.length cap (Qo u ys.length ei.size) (by rw[Qr,ts]) za (by omega) (by omega)
      (growslice_fits (by omega) (by rw[tb];exact hbound))
     obtain⟨c1,c2⟩:=capw cp;refine newrow _ _ c1 c2 ?_ ?_ (by rw[zh,zk];exact z6) zb
     ·have:(vs.toList.take (z1.length * ei.size)).length=z1.length * ei.size:=by simp;omega
      simp only[wO,xJ,Qr,size_zeroCells,hz,this,<-yS]
      congr 1;omega
     intro i z hi;have zv:(vs.toList.take (z1.length * ei.size)).length=z1.length * ei.size:=by simp;omega
     by_cases hix:i<z1.length
     ·rw[zI hix]at hi;refine⟨q4 z (zL hi),λj y hy=>?_⟩;have hj:j<ei.size:=by have:=(zE.1 hy).1;rw[q4 z (zL hi)]at this;exact this
      have ya:=xrel i z hi j hj;obtain⟨v,p1,p2⟩:=hr i z hi j y hy;refine⟨v,?_,p2⟩;rw[yY (by simp;omega),yY (by simp;omega),List.getElem?_toArray,xG,if_pos ya];simpa using p1
     rw[zO (by omega)]at hi;refine⟨zg z (zL hi),λj y hy=>?_⟩;obtain⟨p1,p2⟩:=yrel _ z hi j y hy;have p3:=(zE.1 p1).1;have p4:i * ei.size=z1.length * ei.size+(i - z1.length) * ei.size:=by rw[<-yS];congr 1;omega
     refine⟨_,?_,p2⟩;rw[yY (by simp only[wO,xJ,zv];omega),vL (by simp only[xJ,zv];omega)];simp only[xJ,zv];rw[show i * ei.size+j - z1.length * ei.size=(i - z1.length) * ei.size+j by omega];simpa using p1
    ·rcases zc.obj id _ zq with⟨_,e1⟩|⟨b',_,_,zj,_⟩
     ·exact fromNone zh e1 zb
     rw[hb]at zj;cases zj
    omega
   cases hb
  cases hb
 cases hb
end
end
section
open Go.RowKit
section
variable {P:Program} [Env P] {T:TT} {nt k:Nat} {S:AS} {Q:Exit->AS->Prop}
def Hm(P:Program)[Env P](T:TT)(nt k:Nat)(ops:Array Oper)(Q:AS->Prop):List Oper->AS->Prop
 |[],S=>Q S
 |o::l,S=>if A5 o.op then(match Kt T ops S o with
   |some S'=>Hm P T nt k ops Q l S'
   |none=>We P nt k true ops o S (Hm P T nt k ops Q l))
  else We P nt k true ops o S (Hm P T nt k ops Q l)
def Lf(hT:TOk P T){ops:Array Oper}{R:AS->Prop}{C:Cx P}:∀(l:List Oper) (S:AS) (a:Act) (w:World),Uk nt l=true->Hm P T nt k ops R l S->St C nt k S a w->Ig P ops (u1w C nt k R) l a w
 |[],S,a,w,_,h,hs=>w0l ⟨S,h,hs⟩
 |o::l,S,a,w,hd,h,hs=>by
  simp only[Uk,uK,yJ]at hd;unfold Hm at h;have key:We P nt k true ops o S (Hm P T nt k ops R l):=by
   split at h
   ·split at h
    ·rename_i S' z1;exact Zc hT z1 hd.1 (λ_=>rfl) (by assumption) h
    exact h
   exact h
  have:=key C a w (Ig P ops (u1w C nt k R) l) (u1w C nt k R) hs (λS' a' w' hR z6 _=>Lf hT l S' a' w' hd.2 hR z6);unfold Ig;exact this
def Rp(hT:TOk P T){id:Nat}{l:List Oper}(hd:Uk nt l=true)(h:Hm P T nt k l.toArray (Q .normal) l S):AWP P nt k (.region id l.toArray false) Q S:=λC a w hs=>
 Vt (Kx (Lf hT l S a w hd h hs))
def Qj {α:Type} {c:Code} (F:α->AS) (Inv:α->Prop) (mu:α->Nat)
  (h:∀x,Inv x->(∀y,Inv y->mu y<mu x->Aj P nt k c Q (F y))->AWP P nt k c (Aw (Aj P nt k c Q) Q) (F x)):∀x,Inv x->Aj P nt k c Q (F x):=by
 have key:∀n x,mu x=n->Inv x->Aj P nt k c Q (F x):=by
  intro n;induction n using Nat.strongRecOn with
  |_ n ih=>exact λx hx hI=>q0u (h x hI λy hy z1=>ih (mu y) (by omega) y rfl hy)
 exact λx hI=>key _ x rfl hI
def Qs {c:Code} {sl sl':List (Nat×AV)} {H H':List AObj} (G:List AObj) (h:Aj P nt k c Q ⟨sl',H'⟩) (hH:H=H'++G) (hk:k<=H'.length) (h0:P8 sl sl')
  (hu:sl'.all (λp=>p.2.under H'.length)=true) (z1:H'.all (E7 H'.length)=true):Aj P nt k c Q ⟨sl,H⟩:=by
 subst hH;exact Qc (sl':=sl') (L8 G h hk hu z1) h0
end
def j0e(g:Bool)(b:Bool):deref g (.bool b)=some (.bool b):=rfl
def j0n(H:List AObj)(b:Bool):Wk H (.bool b)=some (.bool b):=by simp[Wk,AV.pure]
def u0u(H:List AObj)(b:Bool):Wy H (.bool b)=some (.bool b):=by simp[Wy,Wk,AV.pure]
def u0l(H:List AObj)(b:Bool):Et H (.bool b)=some (.bool b):=by simp[Et,Wy,Wk,AV.pure]
def j0y(H:List AObj)(b:Bool):R6 H (.bool b)=some (.bool b):=by simp[R6,Et,Wy,Wk,AV.pure]
def w13(b:Bool):AV.nrm1 (.bool b)=(.bool b):=rfl
def u1u(b:Bool):AV.nrm (.bool b)=(.bool b):=rfl
def c0s(g:Bool)(k:IntKind)(n:Int):deref g (.int k n)=some (.int k n):=rfl
def y1l(H:List AObj)(k:IntKind)(n:Int):Wk H (.int k n)=some (.int k n):=by simp[Wk,AV.pure]
def c0i(H:List AObj)(k:IntKind)(n:Int):Wy H (.int k n)=some (.int k n):=by simp[Wy,Wk,AV.pure]
def c0l(H:List AObj)(k:IntKind)(n:Int):Et H (.int k n)=some (.int k n):=by simp[Et,Wy,Wk,AV.pure]
def d0q(H:List AObj)(k:IntKind)(n:Int):R6 H (.int k n)=some (.int k n):=by simp[R6,Et,Wy,Wk,AV.pure]
def d1y(k:IntKind)(n:Int):AV.nrm1 (.int k n)=(.int k n):=rfl
def y2p(k:IntKind)(n:Int):AV.nrm (.int k n)=(.int k n):=rfl
def x1y(g:Bool)(s:List UInt8):deref g (.str s)=some (.str s):=rfl
def w1z(H:List AObj)(s:List UInt8):Wk H (.str s)=some (.str s):=by simp[Wk,AV.pure]
def w11(H:List AObj)(s:List UInt8):Wy H (.str s)=some (.str s):=by simp[Wy,Wk,AV.pure]
def f04(H:List AObj)(s:List UInt8):Et H (.str s)=some (.str s):=by simp[Et,Wy,Wk,AV.pure]
def d08(H:List AObj)(s:List UInt8):R6 H (.str s)=some (.str s):=by simp[R6,Et,Wy,Wk,AV.pure]
def d1q(s:List UInt8):AV.nrm1 (.str s)=(.str s):=rfl
def x2u(s:List UInt8):AV.nrm (.str s)=(.str s):=rfl
def k0e(g:Bool)(s:List AV):deref g (.list s)=some (.list s):=rfl
def j0h(H:List AObj)(s:List AV):Wk H (.list s)=some (.list s):=by simp[Wk,AV.pure]
def u05(H:List AObj)(s:List AV):Wy H (.list s)=some (.list s):=by simp[Wy,Wk,AV.pure]
def g0m(H:List AObj)(s:List AV):Et H (.list s)=some (.list s):=by simp[Et,Wy,Wk,AV.pure]
def k02(H:List AObj)(s:List AV):R6 H (.list s)=some (.list s):=by simp[R6,Et,Wy,Wk,AV.pure]
def g1n(s:List AV):AV.nrm1 (.list s)=(.list s):=rfl
def d1n(s:List AV):AV.nrm (.list s)=(.list s):=rfl
def j08(g:Bool):deref g .nils=some .nils:=rfl
def j0m(g:Bool):deref g .nilp=some .nilp:=rfl
def j04(H:List AObj):Wk H .nilp=some .nilp:=by simp[Wk,AV.pure]
def u0m(H:List AObj):Wy H .nilp=some .nilp:=by simp[Wy,Wk,AV.pure]
def u0e(H:List AObj):Et H .nilp=some .nilp:=by simp[Et,Wy,Wk,AV.pure]
def j02(H:List AObj):R6 H .nilp=some .nilp:=by simp[R6,Et,Wy,Wk,AV.pure]
def x1b:AV.nrm1 .nilp= .nilp:=rfl
def j1p:AV.nrm .nilp= .nilp:=rfl
def g0a(g:Bool):deref g .nilf=some .nilf:=rfl
def j0t(g:Bool):deref g .nili=some .nili:=rfl
def z1j(g:Bool):deref g .ifc=some .ifc:=rfl
def u02(H:List AObj):Wk H .nilf=some .nilf:=by simp[Wk,AV.pure]
def g0c(H:List AObj):Wk H .nili=some .nili:=by simp[Wk,AV.pure]
def w10(H:List AObj):Wk H .ifc=some .ifc:=by simp[Wk,AV.pure]
def u03(H:List AObj):Wy H .nilf=some .nilf:=by simp[Wy,Wk,AV.pure]
def g0i(H:List AObj):Wy H .nili=some .nili:=by simp[Wy,Wk,AV.pure]
def f0f(H:List AObj):Wy H .ifc=some .ifc:=by simp[Wy,Wk,AV.pure]
def g0o(H:List AObj):Et H .nilf=some .nilf:=by simp[Et,Wy,Wk,AV.pure]
def k00(H:List AObj):Et H .nili=some .nili:=by simp[Et,Wy,Wk,AV.pure]
def d0u(H:List AObj):Et H .ifc=some .ifc:=by simp[Et,Wy,Wk,AV.pure]
def g01(H:List AObj):R6 H .nilf=some .nilf:=by simp[R6,Et,Wy,Wk,AV.pure]
def j01(H:List AObj):R6 H .nili=some .nili:=by simp[R6,Et,Wy,Wk,AV.pure]
def x1d(H:List AObj):R6 H .ifc=some .ifc:=by simp[R6,Et,Wy,Wk,AV.pure]
def q10:AV.nrm1 .nilf= .nilf:=rfl
def x1h:AV.nrm1 .nili= .nili:=rfl
def j1a:AV.nrm1 .ifc= .ifc:=rfl
def j1k:AV.nrm .nilf= .nilf:=rfl
def k17:AV.nrm .nili= .nili:=rfl
def y28:AV.nrm .ifc= .ifc:=rfl
def j07(g:Bool)(s:List AV):deref g (.iptr s)=some (.iptr s):=rfl
def u0r(H:List AObj)(s:List AV):Wk H (.iptr s)=some (.iptr s):=by simp[Wk,AV.pure]
def g0x(H:List AObj)(s:List AV):Wy H (.iptr s)=some (.iptr s):=by simp[Wy,Wk,AV.pure]
def g0q(H:List AObj)(s:List AV):Et H (.iptr s)=some (.iptr s):=by simp[Et,Wy,Wk,AV.pure]
def k0n(H:List AObj)(s:List AV):R6 H (.iptr s)=some (.iptr s):=by simp[R6,Et,Wy,Wk,AV.pure]
def z1i(s:List AV):AV.nrm1 (.iptr s)=(.iptr s):=rfl
def v19(s:List AV):AV.nrm (.iptr s)=(.iptr s):=rfl
def w1t(g:Bool):deref g .top=some .top:=rfl
def q1l(H:List AObj):Wk H .top=some .top:=by simp[Wk,AV.pure]
def d0z(H:List AObj):Wy H .top=some .top:=by simp[Wy,Wk,AV.pure]
def f0g(H:List AObj):Et H .top=some .top:=by simp[Et,Wy,Wk,AV.pure]
def x1f(H:List AObj):R6 H .top=some .top:=by simp[R6,Et,Wy,Wk,AV.pure]
def d1p:AV.nrm1 .top= .top:=rfl
def x2b:AV.nrm .top= .top:=rfl
def d0j(g:Bool)(s:List AV):deref g (.agg s)=some (.agg s):=rfl
def q1s(g:Bool)(s:List AV):deref g (.tup s)=some (.tup s):=rfl
def j1g(g:Bool)(f:Fn)(s t:List AV):deref g (.fn f s t)=some (.fn f s t):=rfl
def g02(g:Bool)(a:Nat):deref g (.mref a)=some (.mref a):=rfl
def w1n(a:Nat):AV.pure (.mref a)=false:=by simp[AV.pure]
def Lw(m a:Nat):AV.under m (.mref a)=decide (a<m):=by simp[AV.under]
def d09(g:Bool)(a:Nat):deref g (.yld a)=some (.yld a):=rfl
def f1e(a:Nat):AV.pure (.yld a)=false:=by simp[AV.pure]
def Mu(m a:Nat):AV.under m (.yld a)=decide (a<m):=by simp[AV.under]
def u01(g:Bool)(a b:Nat):deref g (.vptr a b)=some (.vptr a b):=rfl
def y1a(g:Bool)(a b c d:Nat):deref g (.ept a b c d)=some (.ept a b c d):=rfl
def j12(g:Bool)(a b c d:Nat):deref g (.sl a b c d)=some (.sl a b c d):=rfl
def O9(g p:Bool)(x:AV):deref g (.opt p x)=if(!g || p)=true then some x else none:=rfl
def g0h(H:List AObj):Wk H .nils=some (.list []):=rfl
def j0d(H:List AObj):Wy H .nils=some (.list []):=rfl
def g0w(H:List AObj):Et H .nils=some (.list []):=rfl
def g0f(H:List AObj):R6 H .nils=some (.list []):=rfl
def y1g:AV.nrm1 .nils= .list []:=rfl
def k1f:AV.nrm .nils= .list []:=rfl
def u1t(s:List AV):AV.nrm1 (.agg s)= .agg s:=rfl
def y2u(f:Fn)(s t:List AV):AV.nrm1 (.fn f s t)= .fn f s t:=rfl
def y2e(s:List AV):AV.nrm (.agg s)= .agg (s.map AV.nrm1):=rfl
def k2i(f:Fn)(s t:List AV):AV.nrm (.fn f s t)= .fn f (s.map AV.nrm1) (t.map AV.nrm1):=rfl
def f05(H:List AObj)(s:List AV):Wk H (.agg s)=if s.all AV.pure=true then some (.agg s)else none:=by rw[Wk];simp[AV.pure];all_goals simp
def w1y(H:List AObj)(s:List AV):Wy H (.agg s)=Wk H (.agg s):=rfl
def q1m(H:List AObj)(s:List AV):Et H (.agg s)=(Q6 (s.map (Wy H))).map .agg:=rfl
def c0w(H:List AObj)(s:List AV):R6 H (.agg s)=(Q6 (s.map (Wy H))).map .agg:=rfl
def w19(H:List AObj)(s:List AV):R6 H (.tup s)=(Q6 (s.map (Et H))).map .tup:=rfl
def u1p(H:List AObj)(id c lo len:Nat):Wk H (.sl id c lo len)=match H[id]? with
  |some (.arr _ c' xs)=>if c=c'/\lo+len<=xs.length then some (.list ((xs.drop lo).take len))else none
  |_=>none:=rfl
def k1w(H:List AObj)(id c lo len:Nat):Wy H (.sl id c lo len)=Wk H (.sl id c lo len):=rfl
def f1f(H:List AObj)(id c lo len:Nat):Et H (.sl id c lo len)=Wk H (.sl id c lo len):=rfl
def g1m(H:List AObj)(id c lo len:Nat):R6 H (.sl id c lo len)=Wk H (.sl id c lo len):=rfl
def k0q(H:List AObj)(id off:Nat):Wy H (.vptr id off)=match H[id]? with
  |some (.vars cs)=>(Q6 (cs.map (Wk H))).map λys=> .iptr (ys.drop off)
  |_=>none:=rfl
def k0w(H:List AObj)(id off:Nat):Et H (.vptr id off)=Wy H (.vptr id off):=rfl
def k0k(H:List AObj)(id off:Nat):R6 H (.vptr id off)=Wy H (.vptr id off):=rfl
def j14(H:List AObj)(f:Fn)(xs ys:List AV):Et H (.fn f xs ys)=match Q6 (xs.map (Wy H)),Q6 (ys.map (Wy H))with
  |some xs,some ys=>some (.fn f xs ys)
  |_,_=>none:=rfl
def k16(H:List AObj)(f:Fn)(xs ys:List AV):R6 H (.fn f xs ys)=Et H (.fn f xs ys):=rfl
def u1e(cs:List AV):AV.pure (.agg cs)=cs.all AV.pure:=by rw[AV.pure];simp
def j1l(cs:List AV):AV.pure (.tup cs)=cs.all AV.pure:=by rw[AV.pure];simp
def x2i(f:Fn)(xs ys:List AV):AV.pure (.fn f xs ys)=(xs.all AV.pure && ys.all AV.pure):=by rw[AV.pure];simp
def f01(b:Bool):AV.pure (.bool b)=true:=by simp[AV.pure]
def f1d(k:IntKind)(n:Int):AV.pure (.int k n)=true:=by simp[AV.pure]
def u13(s:List UInt8):AV.pure (.str s)=true:=by simp[AV.pure]
def w1r(s:List AV):AV.pure (.list s)=true:=by simp[AV.pure]
def c0r:AV.pure .nils=true:=by simp[AV.pure]
def x1r:AV.pure .nilp=true:=by simp[AV.pure]
def x1m:AV.pure .nilf=true:=by simp[AV.pure]
def f0u:AV.pure .nili=true:=by simp[AV.pure]
def j19:AV.pure .ifc=true:=by simp[AV.pure]
def k1m:AV.pure .top=true:=by simp[AV.pure]
def d0a(s:List AV):AV.pure (.iptr s)=true:=by simp[AV.pure]
def y19(a b:Nat):AV.pure (.vptr a b)=false:=by simp[AV.pure]
def v1s(a b c d:Nat):AV.pure (.ept a b c d)=false:=by simp[AV.pure]
def y2n(a b c d:Nat):AV.pure (.sl a b c d)=false:=by simp[AV.pure]
def flat_agg(cs:List AV):AV.flat (.agg cs)=cs.all AV.flat:=by rw[AV.flat];simp
def k1i(cs:List AV):AV.flat (.tup cs)=cs.all AV.flat:=by rw[AV.flat];simp
def w1u(b:Bool):AV.flat (.bool b)=true:=by simp[AV.flat]
def f1w(k:IntKind)(n:Int):AV.flat (.int k n)=true:=by simp[AV.flat]
def v18(s:List UInt8):AV.flat (.str s)=true:=by simp[AV.flat]
def N6(n:Nat)(cs:List AV):AV.under n (.agg cs)=cs.all (AV.under n):=by rw[AV.under];simp
def Nz(n:Nat)(cs:List AV):AV.under n (.tup cs)=cs.all (AV.under n):=by rw[AV.under];simp
def z00(n:Nat)(f:Fn)(xs ys:List AV):AV.under n (.fn f xs ys)=(xs.all (AV.under n) && ys.all (AV.under n)):=by rw[AV.under];simp
def k0z(m:Nat)(b:Bool):AV.under m (.bool b)=true:=by simp[AV.under]
def c0j(m:Nat)(k:IntKind)(n:Int):AV.under m (.int k n)=true:=by simp[AV.under]
def f02(m:Nat)(s:List UInt8):AV.under m (.str s)=true:=by simp[AV.under]
def j00(m:Nat)(s:List AV):AV.under m (.list s)=true:=by simp[AV.under]
def k09(m:Nat)(s:List AV):AV.under m (.iptr s)=true:=by simp[AV.under]
def g0k(m:Nat):AV.under m .nils=true:=by simp[AV.under]
def k08(m:Nat):AV.under m .nilp=true:=by simp[AV.under]
def k0b(m:Nat):AV.under m .nilf=true:=by simp[AV.under]
def k05(m:Nat):AV.under m .nili=true:=by simp[AV.under]
def f08(m:Nat):AV.under m .ifc=true:=by simp[AV.under]
def x1x(m:Nat):AV.under m .top=true:=by simp[AV.under]
def Bc(m:Nat)(p:Bool)(x:AV):AV.under m (.opt p x)=x.under m:=by simp[AV.under]
def L0(m a b:Nat):AV.under m (.vptr a b)=decide (a<m):=by simp[AV.under]
def q0i(m a b c d:Nat):AV.under m (.ept a b c d)=decide (a<m):=by simp[AV.under]
def x0u(m a b c d:Nat):AV.under m (.sl a b c d)=decide (a<m):=by simp[AV.under]
attribute [simp] g02 w1n Lw d09 f1e Mu look put AS.putD ofConst rho R5 TI.agg Dw Au w0d Uy U3 B5 Mt g2a j21 k2k L7 unA z1v setCells AV.cells AV.leaf AV.isTop Xi Y7 bnd M8 j27 Sd d1z Q6 Hk Pb Gk
 x1u z0p Bn Bp Dh Zx Bt Fw Zn Sp Zb Aa K6 P5 La Fy N4 k2m AV.withCells v04 Qt Kt N7
 isVal A5 Hw Hm Aw Lb P8 E7 TI.zeros zeroCell Qe Value.cells q2r j23 v2u j0e j0n u0u u0l j0y w13 u1u c0s y1l c0i c0l d0q d1y y2p x1y w1z w11 f04 d08 d1q x2u k0e j0h u05 g0m k02 g1n d1n j08 j0m j04 u0m u0e j02 x1b j1p g0a j0t z1j u02 g0c w10 u03 g0i f0f g0o k00 d0u g01 j01 x1d q10 x1h j1a j1k k17 y28 j07 u0r g0x g0q k0n z1i v19 w1t q1l d0z f0g x1f d1p x2b d0j q1s j1g u01 y1a j12 O9 g0h j0d g0w g0f y1g k1f u1t y2u y2e k2i f05 w1y q1m c0w w19 u1p k1w f1f g1m k0q k0w k0k j14 k16 f2u u1e j1l x2i f01 f1d u13 w1r c0r x1r x1m f0u j19 k1m d0a y19 v1s y2n flat_agg k1i w1u f1w v18 N6 Nz z00 k0z c0j f02 j00 k09 g0k k08 k0b k05 f08 x1x Bc L0 q0i x0u Se Aq Ud
end
section
open Go.RowKit
section
variable {P:Program} [Env P] {T:TT} {nt k:Nat} {Q:Exit->AS->Prop} {S:AS}
def qa{y:Code}(hT:TOk P T){id:Nat}{l:List Oper}(hd:Uk nt l=true)(h:Hm P T nt k l.toArray (Aw (AWP P nt k y Q) Q .normal) l S):AWP P nt k (.seq (.region id l.toArray false) y) Q S:=Rj (Rp hT hd h)
def qb(hT:TOk P T){id:Nat}{l:List Oper}(hd:Uk nt l=true)(h:Hm P T nt k l.toArray (Q .normal) l S):AWP P nt k (.region id l.toArray false) Q S:=Rp hT hd h
def j2n:Code->Option Exit
 | .skip=>some .normal
 | .exit id=>some (.exit id)
 | .ret=>some .ret
 |_=>none
def qh{c:Code}{e:Exit}(he:j2n c=some e)(h:Q e S):AWP P nt k c Q S:=by
 cases c<;>simp only[j2n,Option.some.injEq,reduceCtorEq]at he<;>subst he
 ·exact Uf h
 ·exact y0c h
 exact f0s h
def qf{id:Nat}{c:Code}(h:AWP P nt k c (Lb id Q) S):AWP P nt k (.block id c) Q S:=Te h
def qg{x y:Code}(h:AWP P nt k x (Aw (AWP P nt k y Q) Q) S):AWP P nt k (.seq x y) Q S:=Rj h
end
end
section
open Go.RowKit
section
variable {P:Program} [Env P] {T:TT} {nt k:Nat} {S:AS} {Q:Exit->AS->Prop}
def Tw{c:Code}(t:Nat){xs:List AV}(h:look S.sl t=some (.list xs))(hk:xs.length<=9223372036854775807->AWP P nt k c Q S):AWP P nt k c Q S:=λC a w hs=>by obtain⟨I,m,hw,z1,z6,hf⟩:=hs;obtain⟨v,_,hv⟩:=z1.2.2 t _ h;obtain⟨_,cap,_,_,_,h1,h2,_⟩:=hv.list_inv.list_inv;exact hk (by unfold maxLen at h2;omega) C a w ⟨I,m,hw,z1,z6,hf⟩
def Wf{c:Code}(t i:Nat){cs xs:List AV}(h:look S.sl t=some (.agg cs))(hi:cs[i]?=some (.list xs))(hk:xs.length<=9223372036854775807->AWP P nt k c Q S):AWP P nt k c Q S:=λC a w hs=>by
 obtain⟨I,m,hw,z6,z7,hf⟩:=hs;obtain⟨v,_,hv⟩:=z6.2.2 t _ h;obtain⟨vs,rfl,hl,z1⟩:=hv.agg_inv;have z8:i<vs.size:=by rw[hl];exact(zE.1 hi).1
 have za:=z1 i vs[i] _ (by simp[z8]) hi;obtain⟨_,cap,_,_,_,h1,h2,_⟩:=za.list_inv.list_inv;exact hk (by unfold maxLen at h2;omega) C a w ⟨I,m,hw,z6,z7,hf⟩
def Qu {c:Code} (n:Nat) (Inv:Nat->Prop) (sl:Nat->List (Nat×AV)) (H:Nat->List AObj) {z1:List (Nat×AV)} {H0 G:List AObj} (hH:H0=H 0++G) (hk:k<=(H 0).length) (h0:P8 z1 (sl 0))
  (hu:(sl 0).all (λp=>p.2.under (H 0).length)=true) (z6:(H 0).all (E7 (H 0).length)=true) (hI:Inv 0)
  (h:∀j,j<=n->Inv j->(j<n->Inv (j+1)->Aj P nt k c Q ⟨sl (j+1),H (j+1)⟩)->AWP P nt k c (Aw (Aj P nt k c Q) Q) ⟨sl j,H j⟩):AWP P nt k (.loop c) Q ⟨z1,H0⟩:=by
 subst hH;refine Qi (Qc (sl':=sl 0) (L8 G ?_ hk hu z6) h0);exact Qj (F:=λj=>⟨sl j,H j⟩) (λj=>j<=n/\Inv j) (λj=>n - j) (λj hj ih=>h j hj.1 hj.2 λz7 hi=>ih (j+1) ⟨by omega,hi⟩ (by omega)) 0 ⟨Nat.zero_le _,hI⟩
end
def j0a(g:Bool)(x:AV):deref g (.opt g x)=some x:=by rw[O9];cases g<;>rfl
def j0w(g p:Bool)(x:AV):deref (g && p) (.opt g x)=some x:=by rw[O9];cases g<;>cases p<;>rfl
def k0o(g p:Bool)(x:AV):deref (p && g) (.opt g x)=some x:=by rw[O9];cases g<;>cases p<;>rfl
def q0s(g p q:Bool)(x:AV):deref ((g && p) && q) (.opt g x)=some x:=by rw[O9];cases g<;>cases p<;>cases q<;>rfl
attribute [simp high] j0a j0w k0o q0s
end
section
open Go.RowKit
def AV.ren(s:Nat->Nat):AV->AV
 | .agg cs=> .agg (cs.attach.map λ⟨x,_⟩=>x.ren s)
 | .tup cs=> .tup (cs.attach.map λ⟨x,_⟩=>x.ren s)
 | .fn f xs ys=> .fn f (xs.attach.map λ⟨x,_⟩=>x.ren s) (ys.attach.map λ⟨x,_⟩=>x.ren s)
 | .vptr id off=> .vptr (s id) off
 | .yld id=> .yld (s id)
 | .mref id=> .mref (s id)
 | .ept id c i off=> .ept (s id) c i off
 | .sl id c lo len=> .sl (s id) c lo len
 | .opt p x=> .opt p (x.ren s)
 |x=>x
section
variable (s:Nat->Nat)
def z1h(cs:List AV):(AV.agg cs).ren s= .agg (cs.map (AV.ren s)):=by rw[AV.ren];simp
def y1z(cs:List AV):(AV.tup cs).ren s= .tup (cs.map (AV.ren s)):=by rw[AV.ren];simp
def q2e(f:Fn)(xs ys:List AV):(AV.fn f xs ys).ren s= .fn f (xs.map (AV.ren s)) (ys.map (AV.ren s)):=by rw[AV.ren];simp
def y05(b:Bool):(AV.bool b).ren s= .bool b:=by simp[AV.ren]
def v1b(k:IntKind)(n:Int):(AV.int k n).ren s= .int k n:=by simp[AV.ren]
def d0v(x:List UInt8):(AV.str x).ren s= .str x:=by simp[AV.ren]
def v0s(x:List AV):(AV.list x).ren s= .list x:=by simp[AV.ren]
def y06(x:List AV):(AV.iptr x).ren s= .iptr x:=by simp[AV.ren]
def x0c:(AV.nils).ren s= .nils:=by simp[AV.ren]
def x06:(AV.nilp).ren s= .nilp:=by simp[AV.ren]
def v0e:(AV.nilf).ren s= .nilf:=by simp[AV.ren]
def v07:(AV.nili).ren s= .nili:=by simp[AV.ren]
def c02:(AV.ifc).ren s= .ifc:=by simp[AV.ren]
def w29:(AV.top).ren s= .top:=by simp[AV.ren]
def z0z(a:Nat):(AV.mref a).ren s= .mref (s a):=by simp[AV.ren]
def c06(a:Nat):(AV.yld a).ren s= .yld (s a):=by simp[AV.ren]
def v0a(a b:Nat):(AV.vptr a b).ren s= .vptr (s a) b:=by simp[AV.ren]
def x1e(a b c d:Nat):(AV.ept a b c d).ren s= .ept (s a) b c d:=by simp[AV.ren]
def c14(a b c d:Nat):(AV.sl a b c d).ren s= .sl (s a) b c d:=by simp[AV.ren]
def w1k(p:Bool)(x:AV):(AV.opt p x).ren s= .opt p (x.ren s):=by simp[AV.ren]
end
def AObj.ren(s:Nat->Nat):AObj->AObj
 | .vars cs=> .vars (cs.map (AV.ren s))
 | .arr e c xs=> .arr e c xs
 | .dead=> .dead
 | .tag id t=> .tag (s id) t
 | .lp rdy pend nt sl ps asg body=> .lp rdy pend nt (sl.map λp=>(p.1,p.2.ren s)) ps asg body
 | .mp kvs=> .mp kvs
 | .va e c xs=> .va e c (xs.map (AV.ren s))
 | .it left cur=> .it left cur
 | .fm kvs=> .fm kvs
 | .mv kvs=> .mv (kvs.map λp=>(p.1,p.2.ren s))
def Bj(s:Nat->Nat)(x:AV):(x.ren s).cells=x.cells.map (AV.ren s):=by cases x<;>simp[AV.ren,AV.cells]
def VR.ren{w:World}{I:Nat->Prop}{m:Nat->Option Nat}{n n':Nat}{s:Nat->Nat}(x:AV)(v:Value)(h:VR w I m n v (x.ren s))(hu:x.under n'=true):VR w I (λi=>m (s i)) n' v x:=by
 match x,v,h,hu with
 | .agg cs,v,h,hu=>rw[z1h]at h;rw[N6,yE]at hu;obtain⟨vs,rfl,hl,z1⟩:=h.agg_inv;refine .agg vs cs (by simpa using hl) λi v x hv hx=>?_;have hm:=zL hx;exact VR.ren x v (z1 i v _ hv (by simp[hx])) (hu x hm)
 | .tup cs,v,h,hu=>rw[y1z]at h;rw[Nz,yE]at hu;obtain⟨vs,rfl,hl,z1⟩:=h.tup_inv;refine .tup vs cs (by simpa using hl) λi v x hv hx=>?_;have hm:=zL hx;exact VR.ren x v (z1 i v _ hv (by simp[hx])) (hu x hm)
 | .fn f xs ys,v,h,hu=>
  rw[q2e]at h;rw[z00,yJ,yE,yE]at hu;obtain⟨vs,us,rfl,hl,z1,hl',z6⟩:=h.fn_inv;refine .fn f vs us xs ys (by simpa using hl) (λi v x hv hx=>?_) (by simpa using hl') (λi v x hv hx=>?_)
  ·have hm:=zL hx;exact VR.ren x v (z1 i v _ hv (by simp[hx])) (hu.1 x hm)
  have hm:=zL hx;exact VR.ren x v (z6 i v _ hv (by simp[hx])) (hu.2 x hm)
 | .bool b,v,h,_=>rw[y05]at h;rw[h.bool_inv];exact .pure (.bool b)
 | .int k z,v,h,_=>rw[v1b]at h;rw[h.int_inv];exact .pure (.int k z)
 | .str x,v,h,_=>rw[d0v]at h;rw[h.str_inv];exact .pure (.str x)
 | .list xs,v,h,_=>rw[v0s]at h;exact .pure h.list_inv
 | .iptr xs,v,h,_=>rw[y06]at h;exact .pure h.iptr_inv
 | .nils,v,h,_=>rw[x0c]at h;rw[h.nils_inv];exact .pure .nils
 | .nilp,v,h,_=>rw[x06]at h;rw[h.nilp_inv];exact .pure .nilp
 | .nilf,v,h,_=>rw[v0e]at h;rw[h.nilf_inv];exact .pure .nilf
 | .nili,v,h,_=>rw[v07]at h;rw[h.nili_inv];exact .pure .nili
 | .ifc,v,h,_=>rw[c02]at h;obtain⟨t,u,rfl⟩:=h.ifc_inv;exact .pure (.ifc t u)
 | .top,v,_,_=>exact .pure (.top v)
 | .vptr id off,v,h,hu=>rw[v0a]at h;obtain⟨b,hb,_,rfl⟩:=h.vptr_inv;exact .vptr id off b (by simpa[L0]using hu) hb
 | .ept id c i off,v,h,hu=>rw[x1e]at h;obtain⟨b,hb,_,rfl⟩:=h.ept_inv;exact .ept id c i off b (by simpa[q0i]using hu) hb
 | .sl id c lo len,v,h,hu=>
  rw[c14]at h;have hn:id<n':=by simpa[x0u]using hu
  rcases h.sl_inv with⟨b,cap,t,hb,_,hs,hl,hmax,rfl⟩|⟨hb,_,rfl,rfl,rfl⟩|⟨a,_,hlo,rfl,rfl⟩
  ·exact .sl id c lo len cap b t hn hb hs hl hmax
  ·exact .slnone id c hn hb
  exact .slend id c lo a hn hlo
 | .yld id,v,h,hu=>rw[c06]at h;obtain⟨b,hb,_,rfl⟩:=h.yld_inv;exact .yld id b (by simpa[Mu]using hu) hb
 | .mref id,v,h,hu=>rw[z0z]at h;obtain⟨b,hb,_,rfl⟩:=h.mref_inv;exact .mref id b (by simpa[Lw]using hu) hb
 | .opt p x,v,h,hu=>rw[w1k]at h;rw[Bc]at hu;obtain⟨h1,h2⟩:=h.opt_inv;exact .opt p x (λe=>VR.ren x v (h1 e) hu) h2
termination_by SizeOf.sizeOf x
decreasing_by all_goals (first|(have:=List.sizeOf_lt_of_mem hm;simp;omega)|(simp;omega)|simp)
def Vw(s:Nat->Nat){t:Nat}{x:AV}:∀ {sl:List (Nat×AV)},look sl t=some x->look (sl.map λp=>(p.1,p.2.ren s)) t=some (x.ren s)
 |[],hx=>by cases hx
 |(t',y)::r,hx=>by
  simp only[xR,look]at hx |-;split
  ·rename_i e;subst e;simp at hx;rw[hx]
  rename_i e;rw[if_neg e]at hx;exact Vw s hx
def rn(ix:List Nat)(i:Nat):Nat:=ix.getD i i
section
variable {P:Program} [Env P] {nt k:Nat} {Q:Exit->AS->Prop}
def St.ren {C:Cx P} {a:Act} {w:World} {sl sl':List (Nat×AV)} {H H':List AObj} (ix:List Nat) (hs:St C nt k ⟨sl,H⟩ a w)
  (h1:ix.map (λi=>H[i]?)=H'.map (λo=>some (o.ren (rn ix)))) (h2:ix.Nodup) (h3:k<=ix.length) (za:ix.take k=y_ k)
  (h4:sl'.all (λp=>p.2.under H'.length)=true) (z6:H'.all (E7 H'.length)=true) (h5:P8 sl (sl'.map λp=>(p.1,p.2.ren (rn ix)))):St C nt k ⟨sl',H'⟩ a w:=by
 obtain⟨I,m,hw,z7,hk,hf⟩:=hs;have hlen:H'.length=ix.length:=by have:=congrArg List.length h1;simpa using this.symm
 have z1:∀(i:Nat) (o:AObj),H'[i]?=some o->H[rn ix i]?=some (o.ren (rn ix))/\ix[i]?=some (rn ix i):=λi o ho=>by
  have hi:i<ix.length:=by have:=(zE.1 ho).1;omega
  have e1:ix[i]?=some (rn ix i):=by simp[rn,hi]
  have:=congrArg (λl=>l[i]?) h1;simp only[z_,ho,e1,wP,Option.some.injEq]at this;exact⟨this,e1⟩
 refine⟨I,λi=>m (rn ix i),⟨hw.below,hw.i0,hw.iw,λid o ho=>?_,λid o b ho hl hm=>?_,λi j oi oj b hi hj li lj mi mj=>?_⟩,⟨z7.1,z7.2.1,λt x hx=>?_⟩,by rw[hlen];exact h3,?_⟩
 ·have h6:=hw.obj _ _ (z1 id o ho).1;cases o with
  |vars cs=>obtain⟨b,t,vs,e,hh,hl,hr⟩:=h6;refine⟨b,t,vs,e,hh,by simpa using hl,λj v x hv hx=>VR.ren x v (hr j v _ hv (by simp[hx])) ?_⟩;have:=yE.1 z6 _ (zL ho);simp only[E7,yE]at this;exact this x (zL hx)
  |arr e c xs=>exact h6
  |va e c xs=>
   have hb:=yE.1 z6 _ (zL ho);simp only[E7,yE]at hb;rcases h6 with⟨h7,h8⟩|⟨b,cap,vs,e1,hh,q1,q2,q3,q4,hr⟩
   ·exact .inl ⟨h7,by simpa using h8⟩
   refine .inr ⟨b,cap,vs,e1,hh,by simpa using q1,q2,q3,λx hx=>?_,λi x hx j y hy=>?_⟩
   ·have:=q4 (x.ren (rn ix)) (zU.2 ⟨x,hx,rfl⟩)
    rwa [Bj,yL]at this
   obtain⟨v,hv,hp⟩:=hr i (x.ren (rn ix)) (by rw[z_,hx];rfl) j (y.ren (rn ix)) (by rw[Bj,z_,hy];rfl);exact⟨v,hv,VR.ren y v hp (hb x (zL hx) y (zL hy))⟩
  |dead=>trivial
  |tag id t=>have:=yE.1 z6 _ (zL ho);simp only[E7,decide_eq_true_eq]at this;exact⟨this,h6.2⟩
  |lp rdy pend nt sl ps asg body=>obtain⟨b,r,e,hh,q1,q2,q3,q4,q5,q6,q7⟩:=h6;refine⟨b,r,e,hh,q1,q2,q3,q4,q5,q6,λt x hx=>?_⟩;obtain⟨v,hv,hr⟩:=q7 t _ (Vw (rn ix) hx);have:=yE.1 z6 _ (zL ho);exact⟨v,hv,VR.ren x v hr (yE.1 this _ (Pn hx))⟩
  |mp kvs=>exact h6
  |it left cur=>exact h6
  |fm kvs=>exact h6
  |mv kvs=>have hb:=yE.1 z6 _ (zL ho);simp only[E7,yE]at hb;obtain⟨b,es,ck,e1,hh,hl,hr⟩:=h6;refine⟨b,es,ck,e1,hh,⟨by simpa using hl.size,hl.born,hl.nodup⟩,λi x p a c=>?_⟩;have:=hr i x (p.1,p.2.ren (rn ix)) a (by rw[z_,c];rfl);exact⟨this.1,VR.ren p.2 _ this.2 (hb p (zL c))⟩
 ·exact hw.own _ _ b (z1 id o ho).1 (by cases o<;>exact hl) hm
 ·obtain⟨p1,p2⟩:=z1 i oi hi;obtain⟨q1,q2⟩:=z1 j oj hj;have:=hw.inj _ _ _ _ b p1 q1 (by cases oi<;>exact li) (by cases oj<;>exact lj) mi mj;exact(List.getElem?_inj (zE.1 p2).1 h2).1 (by rw[p2,q2,this])
 ·have z8:=Pn hx;have h6:=Vw (rn ix) hx;obtain⟨v,hv,hr⟩:=z7.2.2 t _ (Rw h5 _ _ h6);exact⟨v,hv,VR.ren x v hr (yE.1 h4 _ z8)⟩
 refine⟨⟨hf.fut.ext,λid hid=>?_,hf.fut.shape⟩,hf.defs,hf.rnd⟩;have:rn ix id=id:=by have h7:=congrArg (λl=>l[id]?) za;simp only[xG,if_pos hid]at h7;rw[uG hid]at h7;simp[rn,h7]
 simp only[this];exact hf.fut.ids id hid
end
def u24(ix:List Nat)(i:Nat):rn ix i=ix.getD i i:=rfl
attribute [simp] z0z c06 z1h y1z q2e y05 v1b d0v v0s y06 x0c x06 v0e v07 c02 w29 v0a x1e c14 w1k AObj.ren u24
end
section
open Go.RowKit
section
variable {P:Program} [Env P] {T:TT} {nt k:Nat} {S:AS} {ops:Array Oper} {o:Oper} {R:AS->Prop}
def W1(ei:TI)(xs ys:List AV):Prop:=(∀y∈ys,y.cells.length=ei.size/\y.cells.all AV.leaf=true)/\(xs.length+ys.length) * ei.bytes<=140737488355328
def Vo (hT:TOk P T) (hw:Qt ops S o=some true) {s x:Operand} {t e:TypeId} (ho:o.op= .call ⟨.builtin .append,#[s,x],#[t,t]⟩) {it ei:TI} (ht:look T t=some it) (hit:it.desc= .slice e) (he:look T e=some ei)
  (hz:ei.zero.cells.size=ei.size) (z1:0<ei.size) (z6:0<ei.bytes) {sv xv:AV} (hs:rho S.sl s=some sv) (hx:rho S.sl x=some xv) (hd:Wm nt o=true)
  (hR:match Aq S e ei.size sv,Se S.hp xv with
   |some (xs,H1),some ys=>W1 ei xs ys/\R (({ S with hp:=H1++[.arr e ei.size (xs++ys)] }:AS).putD o.dst (.sl S.hp.length ei.size 0 (xs.length+ys.length)))
   |_,_=>False):We P nt k true ops o S R:=by
 cases hb:Aq S e ei.size sv with
 |none=>rw[hb]at hR;exact hR.elim
 |some p=>
  obtain⟨xs,H1⟩:=p;cases hy:Se S.hp xv with
  |none=>rw[hb,hy]at hR;exact hR.elim
  |some ys=>rw[hb,hy]at hR;obtain⟨⟨h1,h2⟩,h3⟩:=hR;refine Bg hT hw ho ht hit he hz z1 hs hx hb hy h1 h2 ?_ hd h3;have:=Nat.le_mul_of_pos_right (xs.length+ys.length) z6;omega
end
end
section
open Go.RowKit
def AV.fz(i c:Nat)(xs:List AV):AV->AV
 | .agg cs=> .agg (cs.attach.map λ⟨x,_⟩=>x.fz i c xs)
 | .tup cs=> .tup (cs.attach.map λ⟨x,_⟩=>x.fz i c xs)
 | .fn f ys zs=> .fn f (ys.attach.map λ⟨x,_⟩=>x.fz i c xs) (zs.attach.map λ⟨x,_⟩=>x.fz i c xs)
 | .sl id c' lo len=>if id=i/\c'=c/\lo+len<=xs.length then .list ((xs.drop lo).take len)else .sl id c' lo len
 | .opt p x=> .opt p (x.fz i c xs)
 |x=>x
section
variable (i c:Nat) (xs:List AV)
def Z0(cs:List AV):(AV.agg cs).fz i c xs= .agg (cs.map (AV.fz i c xs)):=by rw[AV.fz];simp
def c09(cs:List AV):(AV.tup cs).fz i c xs= .tup (cs.map (AV.fz i c xs)):=by rw[AV.fz];simp
def z2i(f:Fn)(ys zs:List AV):(AV.fn f ys zs).fz i c xs= .fn f (ys.map (AV.fz i c xs)) (zs.map (AV.fz i c xs)):=by rw[AV.fz];simp
def x2s(b:Bool):(AV.bool b).fz i c xs= .bool b:=by simp[AV.fz]
def j2i(k:IntKind)(n:Int):(AV.int k n).fz i c xs= .int k n:=by simp[AV.fz]
def k2x(x:List UInt8):(AV.str x).fz i c xs= .str x:=by simp[AV.fz]
def x14(x:List AV):(AV.list x).fz i c xs= .list x:=by simp[AV.fz]
def x2l(x:List AV):(AV.iptr x).fz i c xs= .iptr x:=by simp[AV.fz]
def q2w:(AV.nils).fz i c xs= .nils:=by simp[AV.fz]
def q2v:(AV.nilp).fz i c xs= .nilp:=by simp[AV.fz]
def x20:(AV.nilf).fz i c xs= .nilf:=by simp[AV.fz]
def q24:(AV.nili).fz i c xs= .nili:=by simp[AV.fz]
def j2s:(AV.ifc).fz i c xs= .ifc:=by simp[AV.fz]
def k2p:(AV.top).fz i c xs= .top:=by simp[AV.fz]
def y1p(a:Nat):(AV.mref a).fz i c xs= .mref a:=by simp[AV.fz]
def q2i(a:Nat):(AV.yld a).fz i c xs= .yld a:=by simp[AV.fz]
def w14(a b:Nat):(AV.vptr a b).fz i c xs= .vptr a b:=by simp[AV.fz]
def q2k(a b d e:Nat):(AV.ept a b d e).fz i c xs= .ept a b d e:=by simp[AV.fz]
def d1f(id c' lo len:Nat):(AV.sl id c' lo len).fz i c xs=if id=i/\c'=c/\lo+len<=xs.length then .list ((xs.drop lo).take len)else .sl id c' lo len:=by rw[AV.fz]
def c1j(p:Bool)(x:AV):(AV.opt p x).fz i c xs= .opt p (x.fz i c xs):=by simp[AV.fz]
end
def AObj.fz(i c:Nat)(xs:List AV):AObj->AObj
 | .vars cs=> .vars (cs.map (AV.fz i c xs))
 | .arr e c' ys=> .arr e c' ys
 | .dead=> .dead
 | .tag id t=> .tag id t
 | .lp rdy pend nt sl ps asg body=> .lp rdy pend nt (sl.map λp=>(p.1,p.2.fz i c xs)) ps asg body
 | .mp kvs=> .mp kvs
 | .va e c' ys=> .va e c' (ys.map (AV.fz i c xs))
 | .it left cur=> .it left cur
 | .fm kvs=> .fm kvs
 | .mv kvs=> .mv (kvs.map λp=>(p.1,p.2.fz i c xs))
def y0e(i c:Nat)(xs:List AV)(x:AV):(x.fz i c xs).cells=x.cells.map (AV.fz i c xs):=by
 cases x with
 |sl a b d e=>by_cases h:a=i/\b=c/\d+e<=xs.length<;>simp[AV.fz,AV.cells,h]
 |_=>simp[AV.fz,AV.cells]
def x2g{w:World}{I:Nat->Prop}{v:Value}{x:AV}(i c:Nat)(xs:List AV)(h:PVR w I v x):x.fz i c xs=x:=by
 have key:∀(vs:Array Value) (cs:List AV),vs.size=cs.length->(∀(k:Nat) (v:Value) (x:AV),vs[k]?=some v->cs[k]?=some x->x.fz i c xs=x)->cs.map (AV.fz i c xs)=cs:=λvs cs hl ih=>by
  refine xQ λk=>?_;rw[z_];cases hx:cs[k]? with
  |none=>rfl
  |some x=>
   have hk:k<vs.size:=by rw[hl];exact(zE.1 hx).1
   rw[wP,ih k vs[k] x (by simp[hk]) hx]
 induction h with
 |agg vs cs hl h ih=>rw[Z0,key vs cs hl ih]
 |tup vs cs hl h ih=>rw[c09,key vs cs hl ih]
 |fn f vs us ys zs hl h hl' h' ih ih'=>rw[z2i,key vs ys hl ih,key us zs hl' ih']
 |_=>simp[AV.fz]
section
variable {P:Program} [Env P] {nt k:Nat} {Q:Exit->AS->Prop} {W0 w:World} {I0 I:Nat->Prop} {m:Nat->Option Nat} {H:List AObj}
def VR.fz(hw:WS W0 I0 w I m H){i e c:Nat}{xs:List AV}(hi:H[i]?=some (.arr e c xs)){v:Value}{x:AV}(h:VR w I m H.length v x):
  VR w (λb=>I b\/m i=some b) m H.length v (x.fz i c xs):=by
 have z6:Ext w w I (λb=>I b\/m i=some b):=⟨λ_ h=> .inl h,λ_ _=>rfl⟩
 have z8:i<H.length:=(zE.1 hi).1
 -- the other objects set aside
 have z1:∀(id:Nat) (o:AObj),((yH H.length AObj.dead).set i (.arr e c xs))[id]?=some o->(id=i/\o= .arr e c xs)\/o= .dead:=λid o ho=>by
  by_cases hid:id=i
  ·subst hid;rw[zS (by simpa using z8)]at ho;exact .inl ⟨rfl,(Option.some.inj ho).symm⟩
  rw[zH (by omega),List.getElem?_replicate]at ho;split at ho
  ·exact .inr (Option.some.inj ho).symm
  cases ho
 have za:WS W0 I0 w I m ((yH H.length AObj.dead).set i (.arr e c xs)):=by
  refine⟨hw.below,hw.i0,hw.iw,λid o ho=>?_,λid o b ho hl hm=>?_,λa b oa ob d ha hb la lb ma mb=>?_⟩
  ·rcases z1 id o ho with⟨rfl,rfl⟩|rfl
   ·have:=hw.obj _ _ hi;simpa using this
   trivial
  ·rcases z1 id o ho with⟨rfl,rfl⟩|rfl
   ·exact hw.own _ _ b hi rfl hm
   cases hl
  rcases z1 a oa ha with⟨rfl,rfl⟩|rfl
  ·rcases z1 b ob hb with⟨rfl,rfl⟩|rfl
   ·rfl
   cases lb
  cases la
 have z7:∀b,f0a I m ((yH H.length AObj.dead).set i (.arr e c xs)) b->I b\/m i=some b:=λb hb=>by
  rcases hb with hb|⟨id,o,ho,hl,hm⟩
  ·exact .inl hb
  rcases z1 id o ho with⟨rfl,rfl⟩|rfl
  ·exact .inr hm
  cases hl
 induction h with
 |pure h=>rw[x2g i c xs h];exact .pure (h.mono z6)
 |agg vs cs hl h ih=>rw[Z0];refine .agg vs _ (by simpa using hl) λj v x hv hx=>?_;rw[z_]at hx;obtain⟨y,hy,rfl⟩:=zX.1 hx;exact ih j v y hv hy
 |tup vs cs hl h ih=>rw[c09];refine .tup vs _ (by simpa using hl) λj v x hv hx=>?_;rw[z_]at hx;obtain⟨y,hy,rfl⟩:=zX.1 hx;exact ih j v y hv hy
 |fn f vs us ys zs hl h hl' h' ih ih'=>
  rw[z2i];refine .fn f vs us _ _ (by simpa using hl) (λj v x hv hx=>?_) (by simpa using hl') (λj v x hv hx=>?_)
  ·rw[z_]at hx;obtain⟨y,hy,rfl⟩:=zX.1 hx;exact ih j v y hv hy
  rw[z_]at hx;obtain⟨y,hy,rfl⟩:=zX.1 hx;exact ih' j v y hv hy
 |vptr id off b hn hb=>rw[w14];exact .vptr id off b hn hb
 |ept id c' j off b hn hb=>rw[q2k];exact .ept id c' j off b hn hb
 |yld id b hn hb=>rw[q2i];exact .yld id b hn hb
 |mref id b hn hb=>rw[y1p];exact .mref id b hn hb
 |opt p x h1 h2 ih=>rw[c1j];exact .opt p _ ih h2
 |sl id c' lo len cap b t hn hb hs hl hmax=>
  rw[d1f];have hv:VR w I m H.length _ _:= .sl id c' lo len cap b t hn hb hs hl hmax;split
  ·rename_i hc;obtain⟨rfl,rfl,zb⟩:=hc;have:=Az za (by simpa using hv) (y:= .list ((xs.drop lo).take len)) (by simp[Wk,zS,z8,zb]);exact .pure (this.mono ⟨z7,λ_ _=>rfl⟩)
  exact .sl id c' lo len cap b t hn hb hs hl hmax
 |slnone id c' hn hb=>
  rw[d1f];split
  ·refine .pure ?_;simp only[List.drop_zero,wD];exact .list _ _ _ 0 _ (λ_ _=>undef) rfl (by simp) (by unfold maxLen;omega) (λx hx=>by simp at hx) (λh0=>by simp at h0) (λi x hx=>by simp at hx)
  exact .slnone id c' hn hb
 |slend id c' lo a hn hlo=>
  rw[d1f];split
  ·refine .pure ?_;simp only[wD];exact .list _ _ _ 0 _ (λ_ _=>undef) rfl (by simp) (by unfold maxLen;omega) (λx hx=>by simp at hx) (λh0=>by simp at h0) (λi x hx=>by simp at hx)
  exact .slend id c' lo a hn hlo
def D1{i c:Nat}{xs:List AV}{t:Nat}{x:AV}:∀ {sl:List (Nat×AV)},look (sl.map λp=>(p.1,p.2.fz i c xs)) t=some x->∃y,look sl t=some y/\x=y.fz i c xs
 |[],hx=>by cases hx
 |(t',y)::r,hx=>by
  simp only[xR,look]at hx |-;split
  ·rename_i e;subst e;simp at hx;exact⟨y,rfl,hx.symm⟩
  rename_i e;rw[if_neg e]at hx;exact D1 hx
def Uo.fz(hw:WS W0 I0 w I m H){i e c:Nat}{xs:List AV}(hi:H[i]?=some (.arr e c xs)){b? :Option Nat}{o:AObj}(h:Uo w I m H.length b? o):
  Uo w (λb=>I b\/m i=some b) m H.length b? (o.fz i c xs):=by
 have z1:Ext w w I (λb=>I b\/m i=some b):=⟨λ_ h=> .inl h,λ_ _=>rfl⟩
 cases o with
 |vars cs=>obtain⟨b,t,vs,e1,hh,hl,hr⟩:=h;refine⟨b,t,vs,e1,hh,by simpa using hl,λj v x hv hx=>?_⟩;rw[z_]at hx;obtain⟨y,hy,rfl⟩:=zX.1 hx;exact(hr j v y hv hy).fz hw hi
 |arr e' c' ys=>
  rcases h with h|⟨b,cap,vs,e1,hh,h1,h2,h3,h4,hr⟩
  ·exact .inl h
  exact .inr ⟨b,cap,vs,e1,hh,h1,h2,h3,h4,λi x hx j y hy=>by obtain⟨v,hv,hp⟩:=hr i x hx j y hy;exact⟨v,hv,hp.mono z1⟩⟩
 |it left cur=>obtain⟨r,bm,es,ck,since,seen,c0,e1,hh,hI,hm,h1,h2,h3,h4,h5,hr,z6⟩:=h;exact⟨r,bm,es,ck,since,seen,c0,e1,hh,.inl hI,hm,h1,h2,h3,h4,h5,λi x p a d=>⟨(hr i x p a d).1.mono z1,(hr i x p a d).2.mono z1⟩,λp hp=>by obtain⟨e2,sn,q1,q2,q3,q4,q5⟩:=z6 p hp;exact⟨e2,sn,q1,q2,q3,q4.mono z1,q5.mono z1⟩⟩
 |va e' c' ys=>
  rcases h with⟨h7,h8⟩|⟨b,cap,vs,e1,hh,h1,h2,h3,h4,hr⟩
  ·exact .inl ⟨h7,by rw[h8];rfl⟩
  refine .inr ⟨b,cap,vs,e1,hh,by simpa using h1,h2,h3,λx hx=>?_,λk x hx j y hy=>?_⟩
  ·obtain⟨z,hz,rfl⟩:=zU.1 hx;rw[y0e,yL];exact h4 z hz
  rw[z_]at hx;obtain⟨z,hz,rfl⟩:=zX.1 hx;rw[y0e,z_]at hy;obtain⟨u,hu,rfl⟩:=zX.1 hy;obtain⟨v,hv,hp⟩:=hr k z hz j u hu;exact⟨v,hv,hp.fz hw hi⟩
 |dead=>trivial
 |fm kvs=>obtain⟨b,es,ck,e1,hI,hh,hl,hr⟩:=h;exact⟨b,es,ck,e1,.inl hI,hh,hl,λi x p a d=>⟨(hr i x p a d).1.mono z1,(hr i x p a d).2.mono z1⟩⟩
 |tag j t=>exact h
 |lp rdy pend nt sl ps asg body=>obtain⟨b,r,e1,hh,q1,q2,q3,q4,q5,q6,q7⟩:=h;refine⟨b,r,e1,hh,q1,q2,q3,q4,q5,q6,λt x hx=>?_⟩;obtain⟨y,hy,rfl⟩:=D1 hx;obtain⟨v,hv,hr⟩:=q7 t y hy;exact⟨v,hv,hr.fz hw hi⟩
 |mp kvs=>obtain⟨b,es,ck,e1,hh,hl,hr⟩:=h;exact⟨b,es,ck,e1,hh,hl,λi x p a d=>⟨(hr i x p a d).1.mono z1,(hr i x p a d).2.mono z1⟩⟩
 |mv kvs=>obtain⟨b,es,ck,e1,hh,hl,hr⟩:=h;refine⟨b,es,ck,e1,hh,⟨by simpa using hl.size,hl.born,hl.nodup⟩,λi x p a d=>?_⟩;rw[z_]at d;obtain⟨q,hq,rfl⟩:=zX.1 d;exact⟨(hr i x q a hq).1.mono z1,(hr i x q a hq).2.fz hw hi⟩
def St.freeze{C:Cx P}{a:Act}{w:World}{sl:List (Nat×AV)}{H:List AObj}(hs:St C nt k ⟨sl,H⟩ a w)(i:Nat){e c:Nat}{xs:List AV}(hi:H[i]?=some (.arr e c xs)):
  St C nt k ⟨sl.map λp=>(p.1,p.2.fz i c xs),(H.set i .dead).map (AObj.fz i c xs)⟩ a w:=by
 obtain⟨I,m,hw,z7,hk,hf⟩:=hs;have z8:Ext w w I (λb=>I b\/m i=some b):=⟨λ_ h=> .inl h,λ_ _=>rfl⟩
 have hlen:((H.set i .dead).map (AObj.fz i c xs)).length=H.length:=by simp
 have z6:∀(id:Nat) (o:AObj),((H.set i .dead).map (AObj.fz i c xs))[id]?=some o->o.live=true->id≠i/\∃o',H[id]?=some o'/\o=o'.fz i c xs/\o'.live=true:=λid o ho hl=>by
  rw[z_]at ho;obtain⟨o',z1,rfl⟩:=zX.1 ho;by_cases hid:id=i
  ·subst hid;rw[zS (zE.1 hi).1]at z1;cases z1;simp[AObj.fz,AObj.live]at hl
  rw[zH (by omega)]at z1;exact⟨hid,o',z1,rfl,by cases o'<;>exact hl⟩
 refine⟨λb=>I b\/m i=some b,m,⟨hw.below,λb hb=> .inl (hw.i0 b hb),λb hb=>?_,λid o ho=>?_,λid o b ho hl hm=>?_,λa b oa ob d ha hb la lb ma mb=>?_⟩,⟨z7.1,z7.2.1,λt x hx=>?_⟩,by rw[hlen];exact hk,hf.trans hk ⟨z8,λ_ _=>rfl,λ_ _ h=>h⟩⟩
 ·rcases hb with hb|hb
  ·exact hw.iw b hb
  have:=hw.own i _ b hi rfl hb;exact⟨this.2.2,.inr this.1⟩
 ·rw[hlen];by_cases hl:o.live=true
  ·obtain⟨_,o',z1,rfl,_⟩:=z6 id o ho hl;exact(hw.obj id o' z1).fz hw hi
  rw[z_]at ho;obtain⟨o',z1,rfl⟩:=zX.1 ho;by_cases hid:id=i
  ·subst hid;rw[zS (zE.1 hi).1]at z1;cases z1;trivial
  rw[zH (by omega)]at z1;cases o' with
  |vars cs=>exact absurd rfl hl
  |arr e c xs=>exact absurd rfl hl
  |dead=>trivial
  |tag j t=>exact hw.obj id _ z1
  |lp rdy pend nt sl ps asg body=>exact absurd rfl hl
  |mp kvs=>exact absurd rfl hl
  |va e c xs=>exact absurd rfl hl
  |it left cur=>exact absurd rfl hl
  |fm kvs=>exact(hw.obj id _ z1).fz hw hi
  |mv kvs=>exact absurd rfl hl
 ·obtain⟨za,o',z1,rfl,hl'⟩:=z6 id o ho hl;have h1:=hw.own id o' b z1 hl' hm;refine⟨h1.1,λhc=>?_,h1.2.2⟩;rcases hc with hc|hc
  ·exact h1.2.1 hc
  exact za (hw.inj id i o' _ b z1 hi hl' rfl hm hc)
 ·obtain⟨_,zb,zc,_,zd⟩:=z6 a oa ha la;obtain⟨_,ze,zf,_,zg⟩:=z6 b ob hb lb;exact hw.inj a b zb ze d zc zf zd zg ma mb
 rw[hlen];have:=D1 hx;obtain⟨y,hy,rfl⟩:=this;obtain⟨v,hv,hr⟩:=z7.2.2 t y hy;exact⟨v,hv,hr.fz hw hi⟩
def Fl{wr:Bool}{ops:Array Oper}{o:Oper}{R:AS->Prop}{sl:List (Nat×AV)}{H:List AObj}(i:Nat){e c:Nat}{xs:List AV}(hi:H[i]?=some (.arr e c xs))(h:We P nt k wr ops o ⟨sl.map λp=>(p.1,p.2.fz i c xs),(H.set i .dead).map (AObj.fz i c xs)⟩ R):We P nt k wr ops o ⟨sl,H⟩ R:=
 λC a w K Q hs=>h C a w K Q (hs.freeze i hi)
end
attribute [simp] y1p q2i Z0 c09 z2i x2s j2i k2x x14 x2l q2w q2v x20 q24 j2s k2p w14 q2k d1f c1j AObj.fz
end
section
open Go.RowKit
section
variable {P:Program} [Env P] {T:TT} {nt k:Nat} {S:AS} {ops:Array Oper} {o:Oper} {R:AS->Prop}
def H5 (hT:TOk P T) {wr:Bool} (hw:Qt ops S o=some true) {t u e:TypeId} {x:Operand} (ho:o.op= .binOp .eql t x (.const (.slice none 0 0)) u) {it:TI} (ht:look T t=some it) (hit:it.desc= .slice e)
  {xs:List AV} (hx:rho S.sl x=some (.list xs)) (hd:Wm nt o=true) (hR:∀b,(xs≠[]->b=false)->R (S.putD o.dst (.bool b))):We P nt k wr ops o S R:=λC a w K Q hs hK=>by
 unfold OpW;rw[if_pos (hs.wanted hw)];obtain⟨I,m,z8,z6,hk,hE⟩:=hs;obtain⟨ad,cap,c,uu,hv,h1,h2,h3,h4,h5⟩:=(Qq z6 hx).list_inv.list_inv;have z7:=hT.und ht;rw[hit]at z7;have z1:(execOp a.eval o).run P w= .ok (.value (.bool ad.isNone)) w:=by have:=Go.Lib.run_eql_slice_nil (P:=P) w t e ad xs.length cap 0 0 z7;have hc:a.eval (.const (.slice none 0 0))= .slice none 0 0:=rfl;simp[execOp,ho,hv,eqGuard,hc,this]
 unfold wpA;rw[z1];refine hK _ _ w (hR ad.isNone λza=>?_) (St.value z6 hk hE z8 (Fut.refl _ _ _ _) (zW _) (Qm hd) (.pure (.bool _))) (λ_=>Tn.refl w);obtain⟨zb,rfl,_⟩:=h4 (List.length_pos_iff.2 za);rfl
end
end
section
open Go.RowKit
inductive Plan where
 |done
 |val (i:Nat) (p:Plan)
 |one (i:Nat) (p:Plan)
 |two (i:Nat) (p:Plan) (j:Nat) (q:Plan)
def Plan.size:Plan->Nat
 | .done=>0
 | .val _ p=>p.size+1
 | .one _ p=>p.size+1
 | .two _ p _ _=>p.size+1
def Kr(ops:Array Oper)(cl:List (List Nat))(Wr:List Nat):Plan->Array Bool->Bool
 | .done,l=>(Region.ready .any ops l).isEmpty
 | .val i p,l=>(match ops[i]? with
   |none=>false
   |some o=>isVal o.op && z07 ops cl Wr l i && (Region.ready .any ops l).contains i) && Kr ops cl Wr p (l.setIfInBounds i true)
 | .one i p,l=>(ops[i]?).isSome && Region.ready .any ops l==[i] && Kr ops cl Wr p (l.setIfInBounds i true)
 | .two i p j q,l=>(ops[i]?).isSome && (ops[j]?).isSome && Region.ready .any ops l==[i,j] && p.size==q.size && Kr ops cl Wr p (l.setIfInBounds i true) && Kr ops cl Wr q (l.setIfInBounds j true)
def stepT(P:Program)[Env P](T:TT)(nt k:Nat)(ops:Array Oper)(W:Nat->Bool)(i:Nat)(R:AS->Prop)(S:AS):Prop:=match ops[i]? with
 |none=>False
 |some o=>if A5 o.op then(match Kt T ops S o with
   |some S'=>(Hw o.op=true->W i=true)/\R S'
   |none=>False)
  else We P nt k (W i) ops o S R
def R7(P:Program)[Env P](T:TT)(nt k:Nat)(ops:Array Oper)(W:Nat->Bool)(i:Nat)(R:AS->Prop)(S:AS):Prop:=match ops[i]? with
 |none=>False
 |some o=>if A5 o.op then(match Kt T ops S o with
   |some S'=>(Hw o.op=true->W i=true)/\R S'
   |none=>We P nt k (W i) ops o S R)
  else We P nt k (W i) ops o S R
def Bs(P:Program)[Env P](T:TT)(nt k:Nat)(ops:Array Oper)(W:Nat->Bool)(Q:AS->Prop):Plan->AS->Prop
 | .done,S=>Q S
 | .val i p,S=>stepT P T nt k ops W i (Bs P T nt k ops W Q p) S
 | .one i p,S=>R7 P T nt k ops W i (Bs P T nt k ops W Q p) S
 | .two i p j q,S=>R7 P T nt k ops W i (Bs P T nt k ops W Q p) S/\R7 P T nt k ops W j (Bs P T nt k ops W Q q) S
section
variable {P:Program} [Env P] {T:TT} {nt k:Nat} {S:AS} {ops:Array Oper} {o:Oper} {R:AS->Prop} {Wr:List Nat}
def Rq (hT:TOk P T) {C:Cx P} (hd:Uk nt ops.toList=true) {i:Nat} {R':AS->Prop} {N:Act->World->Prop} {a:Act} {w:World} (h:R7 P T nt k ops Wr.contains i R' S) (hs:St C nt k S a w)
  (hN:∀S' a' w',R' S'->St C nt k S' a' w'->N a' w'):Fa P ops (u1w C nt k R) i (λa' w'=>(Wr.contains i=false->Tn w w')/\N a' w') a w:=by
 unfold R7 at h;cases ho:ops[i]? with
 |none=>rw[ho]at h;exact h.elim
 |some o=>
  rw[ho]at h;simp only at h;have z1:Wm nt o=true:=yE.1 hd o (by simpa using uC ho);have key:We P nt k (Wr.contains i) ops o S R':=by
   split at h
   ·split at h
    ·rename_i S' z6;exact Zc hT z6 z1 h.1 (by assumption) h.2
    exact h
   exact h
  have:=key C a w (λa' w'=>(Wr.contains i=false->Tn w w')/\N a' w') (u1w C nt k R) hs (λS' a' w' hR z7 hh=>⟨hh,hN S' a' w' hR z7⟩);unfold Fa;rw[ho];exact this
def Ol(hT:TOk P T){C:Cx P}(hd:Uk nt ops.toList=true)(z8:Region.noSelect ops=true):∀(p:Plan) (listed:Array Bool) (S:AS) (a:Act) (w:World),Ox ops listed->Kr ops (U2 ops.toList []) Wr p listed=true->Bs P T nt k ops Wr.contains R p S->St C nt k S a w->
  Lc P ops Wr (u1w C nt k R) p.size listed a w
 | .done,listed,S,a,w,_,hp,h,hs=>⟨by simpa[Kr]using hp,S,h,hs⟩
 | .val i p,listed,S,a,w,z6,hp,h,hs=>by
  unfold Kr at hp;unfold Bs stepT at h;rw[yJ]at hp;obtain⟨zb,za⟩:=hp;cases ho:ops[i]? with
  |none=>rw[ho]at h;exact h.elim
  |some o=>
   rw[ho]at h zb;simp only at h zb;have zc:Wm nt o=true:=yE.1 hd o (by simpa using uC ho);simp only[yJ]at zb;obtain⟨⟨hv,hf⟩,hr⟩:=zb;have zd:A5 o.op=true:=by cases hop:o.op<;>rw[hop]at hv<;>first|rfl|exact hv|(simp[isVal]at hv)
   rw[if_pos zd]at h;have z1:i∈Region.ready .any ops listed:=by simpa using hr
   split at h
   ·rename_i S' ze;obtain⟨v,hy,z7⟩:=hs.yields hT zc hv ze;exact Fo ho (Region.noSelect_spec z8) (λc a w hq=>hq) (λx y=>Uc o.op=true->Tn x y) (λw _=>Tn.refl w) (λx y z h1 h2 hr=>(h1 hr).trans (h2 hr)) p.size listed a w
     (λj oj hj zf zg zh=>y0x ho hf j oj hj zf zg zh) z6 z1 hy (Ol hT hd z8 p _ S' _ w (z6.set z1) za h.2 z7)
   exact h.elim
 | .one i p,listed,S,a,w,z6,hp,h,hs=>by
  unfold Kr at hp;simp only[yJ,beq_iff_eq]at hp;obtain⟨⟨_,z1⟩,za⟩:=hp;have zi:i∈Region.ready .any ops listed:=by rw[z1];simp
  refine⟨λh0=>(by rw[z1]at h0;cases h0),λj hj=>?_⟩;rw[z1]at hj;obtain rfl:j=i:=by simpa using hj
  exact Rq hT hd h hs λS' a' w' hR z7=>Ol hT hd z8 p _ S' a' w' (z6.set zi) za hR z7
 | .two i p j q,listed,S,a,w,z6,hp,h,hs=>by
  unfold Kr at hp;simp only[yJ,beq_iff_eq]at hp;obtain⟨⟨⟨⟨_,z1⟩,zj⟩,za⟩,zk⟩:=hp;have zl:i∈Region.ready .any ops listed:=by rw[z1];simp
  have zm:j∈Region.ready .any ops listed:=by rw[z1];simp
  refine⟨λh0=>(by rw[z1]at h0;cases h0),λm hm=>?_⟩;rw[z1]at hm;rcases(by simpa using hm:m=i\/m=j)with rfl|rfl
  ·exact Rq hT hd h.1 hs λS' a' w' hR z7=>Ol hT hd z8 p _ S' a' w' (z6.set zl) za hR z7
  refine Rq hT hd h.2 hs λS' a' w' hR z7=>?_;have:=Ol hT hd z8 q _ S' a' w' (z6.set zm) zk hR z7;rw[<-zj]at this;exact this
def Qn (hT:TOk P T) (hm:P.follows .mixedOrders=true) {Q:Exit->AS->Prop} {id:Nat} {l:List Oper} (Wr:List Nat) (p:Plan) (hd:Uk nt l=true)
  (hp:(Region.noSelect l.toArray && p.size==l.length && Kr l.toArray (U2 l []) Wr p (ue l.length false))=true)
  (h:Bs P T nt k l.toArray Wr.contains (Q .normal) p S):AWP P nt k (.region id l.toArray true) Q S:=λC a w hs=>by
 simp only[yJ,beq_iff_eq]at hp;obtain⟨⟨h1,h2⟩,h3⟩:=hp;refine Vt (wpIn_region_any hm (Fb (Wr:=Wr) _ _ _ _ ?_));have z8:St C nt k S a { w with drawn:=w.drawn+1 }:=by
  obtain⟨I,m,hw,z1,hk,hE⟩:=hs;have hb:Below w.heap.size w { w with drawn:=w.drawn+1 }:=⟨rfl,rfl,rfl,zW _,λ_ _=>rfl⟩
  obtain⟨g1,g2⟩:=hw.step hb (λ_ h=>h) (λb z6=>⟨(hw.iw b z6).1,.inl z6⟩);exact⟨I,m,g1,⟨z1.1,z1.2.1,λt x hx=>by obtain⟨v,hv,hr⟩:=z1.2.2 t x hx;exact⟨v,hv,hr.mono g2 (zW _)⟩⟩,hk,hE.trans hk g2⟩
 have:=Ol hT (C:=C) (nt:=nt) (k:=k) (R:=Q .normal) (by simpa using hd) h1 p (ue l.length false) S a _ (λj o ho hj=>by
  have z7:=(yX.1 ho).1;simp at z7;simp[z7]at hj) (by simpa using h3) h z8
 rw[h2]at this;simpa using this
end
attribute [simp] Bs stepT R7
end
section
open Go.RowKit
section
variable {P:Program} [Env P] {T:TT} {nt k:Nat} {S:AS} {ops:Array Oper} {o:Oper} {R:AS->Prop}
def q01 {w:World} {dT sT ty e:TypeId} {ti:TypeInfo} (hu:P.underlying dT=some (.slice e)) (hi:P.info? e=some ti) (b off dLen dCap:Nat) (a:Addr) (sLen sCap:Nat) (cs:List Value) (cur:Array Value) (t:TypeId)
  (hn:cs.length=vH sLen dLen * ti.size) (z1:∀j v,cs[j]?=some v->w.cell? (a.add j)=some v) (hg:w.heap[b]?=some (.cells cur t (0,0))) (z6:off+cs.length<=cur.size) (h1:∀v∈cs,v.oneCell'=true):
  (Builtin.copy_ #[dT,sT] ty #[.slice (some ⟨b,off,none⟩) dLen dCap,.slice (some a) sLen sCap]).run P w= .ok (goInt (vH sLen dLen)) (w.setRow b (spl cur off cs.toArray)):=by
 have hl:=run_loadCells_list (P:=P) w a cs z1;have hst:=run_storeCells_at (P:=P) b off t cs 0 cur w hg (by simpa using z6) h1;rw[hn]at hl;simp[Builtin.copy_,run_underlying hu,Builtin.lenOf,Builtin.firstCells,sizeOf,typeInfo,hi,hl,hst,spl]
end
end
section
open Go.RowKit
section
variable {P:Program} [Env P] {T:TT} {nt k:Nat} {S:AS} {ops:Array Oper} {o:Oper} {R:AS->Prop}
def X3{w:World}{dT sT ty e:TypeId}{ti:TypeInfo}(hu:P.underlying dT=some (.slice e))(hi:P.info? e=some ti)(d a:Option Addr)(dLen dCap sLen sCap:Nat)(hn:vH sLen dLen=0):
  (Builtin.copy_ #[dT,sT] ty #[.slice d dLen dCap,.slice a sLen sCap]).run P w= .ok (goInt 0) w:=by
 have hl:∀(x:Addr),(loadCells x 0).run P w= .ok #[] w:=λx=>by simpa using run_loadCells_list (P:=P) w x [] (by simp)
 cases d<;>cases a<;>simp[Builtin.copy_,run_underlying hu,Builtin.lenOf,Builtin.firstCells,sizeOf,typeInfo,hi,hn,storeCells,hl]
def K7 (hT:TOk P T) (hw:Qt ops S o=some true) {d s:Operand} {t t' e:TypeId} (ho:o.op= .call ⟨.builtin .copy,#[d,s],#[t,t']⟩) {it ei:TI} (ht:look T t=some it) (hit:it.desc= .slice e) (he:look T e=some ei)
  {id lo len:Nat} (y3:rho S.sl d=some (.sl id ei.size lo len)) {sv:AV} (y4:rho S.sl s=some sv) {ys:List AV} (hy:Se S.hp sv=some ys) {e':TypeId} {xs:List AV} (zh:S.hp[id]?=some (.arr e' ei.size xs))
  (hlen:lo+len<=xs.length) (zr:∀y∈ys.take len,y.cells.length=ei.size/\y.cells.all AV.leaf=true) (hd:Wm nt o=true)
  (hR:R (({ S with hp:=S.hp.set id (.arr e' ei.size (xs.take lo++ys.take len++xs.drop (lo+vH ys.length len))) }:AS).putD o.dst (.int .i64 (vH ys.length len:Nat)))):We P nt k true ops o S R:=λC a w K Q hst hK=>by
 unfold OpW;rw[if_pos (hst.wanted hw)];obtain⟨I,m,zi,zl,hk,hE⟩:=hst;obtain⟨ao,cap,u,zt,hcell,zu⟩:=Ip zi (Qq zl y4) hy;obtain⟨ti,zv,tz,ts,tb⟩:=hT.info he;have zm:=hT.und ht;rw[hit]at zm;have fin:∀(w':World) (m':Nat->Option Nat),(Builtin.copy_ #[t,t'] o.type #[a.eval d,a.eval s]).run P w= .ok (goInt (vH ys.length len)) w'->WS C.W0 C.I0 w' I m' (S.hp.set id (.arr e' ei.size (xs.take lo++ys.take len++xs.drop (lo+vH ys.length len))))->
   Fut S.hp.length w I m w' I m'->wpA P o a w K Q:=λw' m' z1 g1 g2=>by
  unfold wpA;have:(execOp a.eval o).run P w= .ok (.value (goInt (vH ys.length len))) w':=by simp[execOp,ho,resolve,invoke,builtin,z1]
  rw[this];exact hK _ _ w' hR (St.value zl hk hE g1 g2 (by simp) (Qm hd) (.pure (.int _ _))) (λe=>by cases e)
 have zero:vH ys.length len=0->∀(b0:Option Addr) (n0 c0:Nat),n0=len->a.eval d= .slice b0 n0 c0->wpA P o a w K Q:=λh0 b0 n0 c0 y5 y6=>by
  subst y5;have h1:xs.take lo++ys.take n0++xs.drop (lo+vH ys.length n0)=xs:=by
   have:ys.take n0=[]:=by apply wp;rw[List.length_take,Nat.min_comm];exact h0
   rw[this,h0];simp
  have zn:S.hp.set id (.arr e' ei.size (xs.take lo++ys.take n0++xs.drop (lo+vH ys.length n0)))=S.hp:=by
   rw[h1];refine xQ λj=>?_;by_cases hj:j=id
   ·subst hj;rw[zS (zE.1 zh).1,zh]
   rw[zH (by omega)]
  refine fin w m ?_ (by rw[zn];exact zi) (Fut.refl _ _ _ _);rw[y6,zt,h0];exact X3 zm zv _ _ _ _ _ _ h0
 rcases(Qq zl y3).sl_inv with⟨b,cp,t2,hb,hn,yg,hl',hmax,z7⟩|⟨hb,hn,y7,za,z7⟩|⟨ad,hn,hlo,za,z7⟩
 ·rcases vA (vH ys.length len)with h0|h0
  ·exact zero h0 _ _ _ rfl z7
  have zo:0<ys.length:=xY h0 (sj _ _);have za:0<len:=xY h0 (tY _ _);obtain⟨ad,rfl,c,y8,y9⟩:=hcell zo;have ya:c=ei.size:=by have hm:ys[0]∈ys.take len:=zL (i:=0) (by rw[xG,if_pos za];simp[zo]);rw[<-y8 _ (zT zo),(zr _ hm).1]
  subst ya;rcases zi.obj id _ zh with⟨e1,_⟩|⟨b',yb,vs,zw,hh,q1,q2,q3,q4,hr⟩
  ·rw[hb]at e1;cases e1
  obtain rfl:b=b':=by rw[hb]at zw;exact Option.some.inj zw
  have zx:vH ys.length len<=ys.length:=sj _ _;have zy:vH ys.length len<=len:=tY _ _;generalize zj:vH ys.length len=n at *
  have zz:ys.take len=ys.take n:=by
   rcases Nat.le_total ys.length len with h|h
   ·rw[zZ h,<-zj,show vH ys.length len=ys.length from Nat.min_eq_left h,zZ (zW _)]
   rw[<-zj,show vH ys.length len=len from Nat.min_eq_right h]
  have zb:lo * ei.size+n * ei.size<=vs.size:=by rw[q3,<-yS];exact yK _ (by omega)
  have zc:lo * ei.size+(Qo u n ei.size).length<=vs.size:=by rw[Qr];exact zb
  have z6:∀i,i<n->∃y,ys[i]?=some y/\y.cells.length=ei.size/\y.cells.all AV.leaf=true:=λi hi=>by
   have y0:i<ys.length:=by omega
   refine⟨ys[i],by simp[y0],zr _ (zL (i:=i) (by rw[xG,if_pos (by omega)];simp[y0]))⟩
  have one:∀v∈Qo u n ei.size,v.oneCell'=true:=λv hv=>by obtain⟨q,hq⟩:=yQ.1 hv;obtain⟨_,_,p1,p2,_,rfl⟩:=Eu _ _ _ _ _ hq;obtain⟨y,z8,zp,yc⟩:=z6 _ p1;have hz:y.cells[q % ei.size]?=some (y.cells[q % ei.size]'(by omega)):=zP (by omega);exact(VR.pure (m:=m) (n:=0) (zu _ _ z8 _ _ hz)).oneCell (yE.1 yc _ (zL hz))
  have zq:∀(q:Nat) (v:Value),(Qo u n ei.size)[q]?=some v->w.cell? (ad.add q)=some v:=λq v hq=>by obtain⟨_,_,p1,p2,p3,rfl⟩:=Eu _ _ _ _ _ hq;have:=y9 _ _ (show q / ei.size<ys.length by omega) p2;rw[<-p3]at this;exact this
  have z1:=q01 (P:=P) (w:=w) (dT:=t) (sT:=t') (ty:=o.type) zm zv b (lo * ei.size) len cp ad ys.length cap (Qo u n ei.size) vs e' (by rw[Qr,ts,zj]) zq hh zc one;rw[zj]at z1;have y1:lo * ei.size+(Qo u n ei.size).toArray.size<=vs.size:=by simpa using zc
  have zd:=T0 vs (lo * ei.size) (Qo u n ei.size).toArray y1;have ze:(xs.take lo++ys.take len++xs.drop (lo+n)).length=xs.length:=by rw[zz];simp;omega
  have zf:∀(i:Nat) (z:AV),(xs.take lo++ys.take len++xs.drop (lo+n))[i]?=some z->(lo<=i/\i<lo+n/\ys[i - lo]?=some z)\/((i<lo\/lo+n<=i)/\xs[i]?=some z):=λi z hz=>by
   rw[zz]at hz;have e1:(xs.take lo).length=lo:=by simp;omega
   have e2:(ys.take n).length=n:=by simp;omega
   rw[List.append_assoc,ud,e1]at hz;split at hz
   ·rw[xG,if_pos (by assumption)]at hz;exact .inr ⟨.inl (by assumption),hz⟩
   rw[ud,e2]at hz;split at hz
   ·rw[xG,if_pos (by assumption)]at hz;exact .inl ⟨by omega,by omega,hz⟩
   rw[xM,show lo+n+(i - lo - n)=i by omega]at hz;exact .inr ⟨.inr (by omega),hz⟩
  have zg:(AObj.arr e' ei.size xs).live=true:=rfl;obtain⟨g1,g2⟩:=zi.set (o':= .arr e' ei.size (xs.take lo++ys.take len++xs.drop (lo+n))) zh zg hb (Em w b (spl vs (lo * ei.size) (Qo u n ei.size).toArray)) (Rk hh zd)
   (λm' hf=> .inr ⟨b,yb,_,rfl,setRow_heap w b vs _ e' _ hh,by rw[ze];exact q1,q2,by rw[zd,q3],λz hz=>by
     obtain⟨i,hi⟩:=yQ.1 hz;rcases zf i z hi with⟨p1,p2,p3⟩|⟨_,p3⟩
     ·obtain⟨y,z8,zp,_⟩:=z6 (i - lo) (by omega);rw[z8]at p3;cases p3;exact zp
     ·exact q4 z (zL p3),λi z hi j y zk=>by
     rw[Af _ _ _ _ y1];rcases zf i z hi with⟨p1,p2,p3⟩|⟨p1,p3⟩
     ·obtain⟨y',z8,zp,_⟩:=z6 (i - lo) (by omega);have yd:z=y':=by rw[z8]at p3;exact(Option.some.inj p3).symm
      subst yd;have hj:j<ei.size:=by have:=(zE.1 zk).1;omega
      have y2:=Yn u n ei.size (i - lo) j (by omega) hj;have yh:=(zE.1 y2).1;have yi:i * ei.size=lo * ei.size+(i - lo) * ei.size:=by rw[<-yS];congr 1;omega
      rw[if_pos (by simp only[xJ];omega)];exact⟨u (i - lo) j,by rw[show i * ei.size+j - lo * ei.size=(i - lo) * ei.size+j by omega];simpa using y2,(zu _ _ z8 _ _ zk).mono hf.ext⟩
     obtain⟨v,ye,yf⟩:=hr i z p3 j y zk;have hj:j<ei.size:=by have:=(zE.1 zk).1;rw[q4 z (zL p3)]at this;exact this
     rw[if_neg ?_]
     ·exact⟨v,ye,yf.mono hf.ext⟩
     simp only[xJ,Qr];rintro⟨r1,r2⟩;rw[<-yS]at r2;rcases p1 with p1|p1
     ·have:(i+1) * ei.size<=lo * ei.size:=yK _ (by omega);rw[yS]at this;omega
     have:(lo+n) * ei.size<=i * ei.size:=yK _ (by omega);omega⟩)
  exact fin _ _ (by rw[z7,zt];exact z1) g1 g2
 ·subst za;exact zero (sD _) _ _ _ rfl z7
 subst za;exact zero (sD _) _ _ _ rfl z7
end
end
section
open Go.RowKit
section
variable {P:Program} [Env P] {T:TT} {nt k:Nat} {S:AS} {ops:Array Oper} {o:Oper} {R:AS->Prop} {Q:Exit->AS->Prop}
def v2p{w:World}{t e:TypeId}{ty:TypeId}(z1:P.underlying t=some (.slice e))(a:Option Addr)(n c:Nat):(Builtin.cap_ #[t] ty #[.slice a n c]).run P w= .ok (goInt c) w:=by simp[Builtin.cap_,run_underlying z1]
end
end
section
open Go.RowKit
section
variable {P:Program} [Env P] {T:TT} {nt k:Nat} {S:AS} {ops:Array Oper} {o:Oper} {R:AS->Prop} {Q:Exit->AS->Prop}
end
end
section
open Go.RowKit
section
variable {P:Program} [Env P] {T:TT} {nt k:Nat} {S:AS} {ops:Array Oper} {o:Oper} {R:AS->Prop} {Q:Exit->AS->Prop}
end
end
section
open Go.RowKit
section
variable {P:Program} [Env P] {T:TT} {nt k:Nat} {S:AS} {ops:Array Oper} {o:Oper} {R:AS->Prop} {Q:Exit->AS->Prop}
end
end
section
open Go.RowKit
section
variable {P:Program} [Env P] {T:TT} {nt k:Nat} {S:AS} {ops:Array Oper} {o:Oper} {R:AS->Prop}
@[simp] theorem valA_slice3 (T:TT) (S:AS) (g:Bool) (t:TypeId) (x:Operand) (lo hi:Option Operand) (mx:Operand):F5 T S g (.slice t x lo hi (some mx))=none:=rfl
end
end
section
open Go.RowKit
def AV.fv(i:Nat)(xs:List AV):AV->AV
 | .agg cs=> .agg (cs.attach.map λ⟨x,_⟩=>x.fv i xs)
 | .tup cs=> .tup (cs.attach.map λ⟨x,_⟩=>x.fv i xs)
 | .fn f ys zs=> .fn f (ys.attach.map λ⟨x,_⟩=>x.fv i xs) (zs.attach.map λ⟨x,_⟩=>x.fv i xs)
 | .vptr id off=>if id=i then .iptr (xs.drop off)else .vptr id off
 | .opt p x=> .opt p (x.fv i xs)
 |x=>x
section
variable (i:Nat) (xs:List AV)
def u22(cs:List AV):(AV.agg cs).fv i xs= .agg (cs.map (AV.fv i xs)):=by rw[AV.fv];simp
def k2g(cs:List AV):(AV.tup cs).fv i xs= .tup (cs.map (AV.fv i xs)):=by rw[AV.fv];simp
def f2y(f:Fn)(ys zs:List AV):(AV.fn f ys zs).fv i xs= .fn f (ys.map (AV.fv i xs)) (zs.map (AV.fv i xs)):=by rw[AV.fv];simp
def z2w(b:Bool):(AV.bool b).fv i xs= .bool b:=by simp[AV.fv]
def j2b(k:IntKind)(n:Int):(AV.int k n).fv i xs= .int k n:=by simp[AV.fv]
def k2j(x:List UInt8):(AV.str x).fv i xs= .str x:=by simp[AV.fv]
def x2y(x:List AV):(AV.list x).fv i xs= .list x:=by simp[AV.fv]
def y21(x:List AV):(AV.iptr x).fv i xs= .iptr x:=by simp[AV.fv]
def x22:(AV.nils).fv i xs= .nils:=by simp[AV.fv]
def x2n:(AV.nilp).fv i xs= .nilp:=by simp[AV.fv]
def v2k:(AV.nilf).fv i xs= .nilf:=by simp[AV.fv]
def z2s:(AV.nili).fv i xs= .nili:=by simp[AV.fv]
def v2x:(AV.ifc).fv i xs= .ifc:=by simp[AV.fv]
def u27:(AV.top).fv i xs= .top:=by simp[AV.fv]
def f2g(a b d e:Nat):(AV.sl a b d e).fv i xs= .sl a b d e:=by simp[AV.fv]
def u2s(a b d e:Nat):(AV.ept a b d e).fv i xs= .ept a b d e:=by simp[AV.fv]
def w2y(a:Nat):(AV.mref a).fv i xs= .mref a:=by simp[AV.fv]
def u2y(a:Nat):(AV.yld a).fv i xs= .yld a:=by simp[AV.fv]
def q25(id off:Nat):(AV.vptr id off).fv i xs=if id=i then .iptr (xs.drop off)else .vptr id off:=by rw[AV.fv]
def u2q(p:Bool)(x:AV):(AV.opt p x).fv i xs= .opt p (x.fv i xs):=by simp[AV.fv]
end
def AObj.fv(i:Nat)(xs:List AV):AObj->AObj
 | .vars cs=> .vars (cs.map (AV.fv i xs))
 | .arr e c' ys=> .arr e c' ys
 | .dead=> .dead
 | .tag id t=> .tag id t
 | .lp rdy pend nt sl ps asg body=> .lp rdy pend nt (sl.map λp=>(p.1,p.2.fv i xs)) ps asg body
 | .mp kvs=> .mp kvs
 | .va e c' ys=> .va e c' (ys.map (AV.fv i xs))
 | .it left cur=> .it left cur
 | .fm kvs=> .fm kvs
 | .mv kvs=> .mv (kvs.map λp=>(p.1,p.2.fv i xs))
section
variable {P:Program} [Env P] {nt k:Nat} {Q:Exit->AS->Prop} {W0 w:World} {I0 I:Nat->Prop} {m:Nat->Option Nat} {H:List AObj}
end
attribute [simp] w2y u2y u22 k2g f2y z2w j2b k2j x2y y21 x22 x2n v2k z2s v2x u27 q25 u2s f2g u2q AObj.fv
end
section
open Go.RowKit Go.ChangeShapes Go.WideShapes
section
variable {H:Type} {enc:TypeId×Value->H} {P:Program} [Env P] {T:TT} {W:World}
def TOk.cellsOf(hT:TOk P T){t:TypeId}{i:TI}(h:look T t=some i):P.cellsOf t=i.size:=by obtain⟨j,hj,_,hs,_⟩:=TOk.info hT h;simp[Program.cellsOf,hj,hs]
def TOk.bytesOf(hT:TOk P T){t:TypeId}{i:TI}(h:look T t=some i):P.bytesOf t=i.bytes:=by obtain⟨j,hj,_,_,hs⟩:=TOk.info hT h;simp[Program.bytesOf,hj,hs]
def v1m(i:TI)(zs:List AV):AV:=if i.agg then .agg zs else zs.headD .top
def z2r(R:TypeId->List AV->Prop):List TypeId->List AV->Prop
 |[],ys=>ys=[]
 |t::ts,ys=>∃zs rest,ys=zs++rest/\R t zs/\z2r R ts rest
def f2l(R:List AV->Prop):Nat->List AV->Prop
 |0,ys=>ys=[]
 |n+1,ys=>∃zs rest,ys=zs++rest/\R zs/\f2l R n rest
def w0h(T:TT)(R:TypeId->List AV->Prop)(i:TI)(ys:List AV):Prop:=match i.desc with
 | .bool=>∃b,ys=[.bool b]
 | .int k=>∃n,ys=[.int k n]/\k.min<=n/\n<=k.max
 | .string=>∃s:List UInt8,ys=[.str s]/\s.length<=reachBytes
 | .slice e=>∃ei xs,look T e=some ei/\ys=[.list xs]/\xs.length * ei.bytes<=reachBytes/\∀x∈xs,∃zs,x=v1m ei zs/\R e zs
 | .struct fs=>z2r R (fs.toList.map (·.type)) ys
 | .array n e=>f2l (R e) n ys
 |_=>False
def Shp(T:TT):Nat->TypeId->List AV->Prop
 |0,_,_=>False
 |d+1,t,ys=>match look T t with
  |some i=>w0h T (Shp T d) i ys
  |none=>False
def q0j(T:TT):List Field->Nat->Nat->Bool
 |[],off,size=>off==size
 |f::fs,off,size=>f.offset==off && (match look T f.type with
  |some i=>q0j T fs (off+i.size) size
  |none=>false)
def O4(T:TT):Nat->TypeId->Bool
 |0,_=>false
 |d+1,t=>match look T t with
  |some i=>match i.desc with
   | .bool| .int _| .string=>i.size==1
   | .slice e=>i.size==1 && O4 T d e && (match look T e with
    |some ei=>(ei.agg || ei.size==1) && decide (0<ei.size)
    |none=>false)
   | .struct fs=>q0j T fs.toList 0 i.size && fs.toList.all λf=>O4 T d f.type
   | .array n e=>O4 T d e && (match look T e with
    |some ei=>i.size==n * ei.size
    |none=>false)
   |_=>false
  |none=>false
def P9(W:World)(cs:List Value)(ys:List AV):Prop:=cs.length=ys.length/\∀(j:Nat) (v:Value) (y:AV),cs[j]?=some v->ys[j]?=some y->PVR W (·<W.heap.size) v y
def P9.one{v:Value}{y:AV}(h:PVR W (·<W.heap.size) v y):P9 W [v] [y]:=by
 refine⟨rfl,λj u z hu hz=>?_⟩;rcases j with _|j
 ·simp only[wM,Option.some.injEq]at hu hz;subst hu;subst hz;exact h
 simp at hu
def P9.app{cs cs':List Value}{ys ys':List AV}(h:P9 W cs ys)(h':P9 W cs' ys'):P9 W (cs++cs') (ys++ys'):=by
 refine⟨by simp[h.1,h'.1],λj u z hu hz=>?_⟩;rw[ud]at hu hz;rw[h.1]at hu;split at hu
 ·rename_i hj;rw[if_pos hj]at hz;exact h.2 j u z hu hz
 rename_i hj;rw[if_neg hj]at hz;exact h'.2 _ u z hu hz
def Uv{α β:Type}{f:α->Option β}{a:α}{l:List α}{r:List β}(h:(a::l).mapM f=some r):∃b bs,f a=some b/\l.mapM f=some bs/\r=b::bs:=by rw[List.mapM_cons]at h;simp only[Option.pure_def,Option.bind_eq_bind,xK,Option.some.injEq]at h;obtain⟨b,hb,bs,z1,rfl⟩:=h;exact⟨b,bs,hb,z1,rfl⟩
def Goal(enc:TypeId×Value->H)(P:Program)(T:TT)(W:World)(d:Nat)(t:TypeId):Prop:=∀(fuel:Nat) (cs:List Value) (x:DataW H×List MemPlace),
 DataW.trod enc P W 0 (λ_=>true) true fuel t cs=some x->(∀n∈x.1.weights P t,n<=reachBytes)->∃ys,Shp T d t ys/\P9 W cs ys
def Kd(hT:TOk P T){d:Nat}:∀(fs:List Field) (off size:Nat) (cs:List Value),q0j T fs off size=true->cs.length=size->(∀f∈fs,Goal enc P T W d f.type)->∀(fuel:Nat) (xs:List (DataW H×List MemPlace)),
  (fs.mapM λf=>DataW.trod enc P W 0 (λ_=>true) true fuel f.type ((cs.drop f.offset).take (P.cellsOf f.type)))=some xs->(∀n∈DataW.weightsEach P (fs.map (·.type)) (xs.map (·.1)),n<=reachBytes)->
  ∃ys,z2r (Shp T d) (fs.map (·.type)) ys/\P9 W (cs.drop off) ys
 |[],off,size,cs,hc,hl,_,fuel,xs,h,_=>by simp only[q0j,beq_iff_eq]at hc;refine⟨[],rfl,?_⟩;rw[tq (by omega)];exact⟨rfl,by simp⟩
 |f::fs,off,size,cs,hc,hl,hg,fuel,xs,h,hw=>by
  simp only[q0j,yJ,beq_iff_eq]at hc;obtain⟨z1,hc⟩:=hc;split at hc
  ·rename_i i hi;obtain⟨b,bs,hb,z6,rfl⟩:=Uv h;simp only[xR,DataW.weightsEach,yB]at hw;have z7:P.cellsOf f.type=i.size:=TOk.cellsOf hT hi;rw[z1,z7]at hb;obtain⟨zs,z8,za⟩:=hg f (by simp) fuel _ b hb (λn hn=>hw n (.inl hn));obtain⟨rest,zb,zc⟩:=Kd hT fs (off+i.size) size cs hc hl (λg zd=>hg g (by simp[zd])) fuel bs z6 (λn hn=>hw n (.inr hn));refine⟨zs++rest,⟨zs,rest,rfl,z8,zb⟩,?_⟩;have:cs.drop off=(cs.drop off).take i.size++cs.drop (off+i.size):=by rw[<-sk,xW]
   rw[this];exact za.app zc
  cases hc
def Zs{d:Nat}{e:TypeId}{c:Nat}(hg:Goal enc P T W d e):∀(n s:Nat) (cs:List Value),cs.length=(s+n) * c->∀(fuel:Nat) (xs:List (DataW H×List MemPlace)),
  ((ur s n).mapM λi=>DataW.trod enc P W 0 (λ_=>true) true fuel e ((cs.drop (i * c)).take c))=some xs->(∀k∈DataW.weightsAll P e (xs.map (·.1)),k<=reachBytes)->
  ∃ys,f2l (Shp T d e) n ys/\P9 W (cs.drop (s * c)) ys
 |0,s,cs,hl,fuel,xs,h,_=>by refine⟨[],rfl,?_⟩;rw[tq (by rw[hl];simp)];exact⟨rfl,by simp⟩
 |n+1,s,cs,hl,fuel,xs,h,hw=>by
  rw[uy]at h;obtain⟨b,bs,hb,z1,rfl⟩:=Uv h;simp only[xR,DataW.weightsAll,yB]at hw;obtain⟨zs,z6,z7⟩:=hg fuel _ b hb (λk hk=>hw k (.inl hk));obtain⟨rest,z8,za⟩:=Zs hg n (s+1) cs (by rw[hl];congr 1;omega) fuel bs z1 (λk hk=>hw k (.inr hk));refine⟨zs++rest,⟨zs,rest,rfl,z6,z8⟩,?_⟩;have:cs.drop (s * c)=(cs.drop (s * c)).take c++cs.drop ((s+1) * c):=by rw[yS,sm,<-sk,xW]
  rw[this];exact z7.app za
def L3{d:Nat}{e:TypeId}{c:Nat}(hg:Goal enc P T W d e){a:Addr}(fuel:Nat):∀(n s:Nat) (xs:List (DataW H×List MemPlace)),
  ((ur s n).mapM λi=>(W.cells? 0 (a.add (i * c)) c).bind (DataW.trod enc P W 0 (λ_=>true) true fuel e))=some xs->(∀k∈DataW.weightsAll P e (xs.map (·.1)),k<=reachBytes)->
  ∃z1:List (List AV),z1.length=n/\(∀ys∈z1,Shp T d e ys/\ys.length=c)/\∀i ys,z1[i]?=some ys->∃cs,W.cells? 0 (a.add ((s+i) * c)) c=some cs/\P9 W cs ys
 |0,s,xs,h,_=>⟨[],rfl,by simp,by simp⟩
 |n+1,s,xs,h,hw=>by
  rw[uy]at h;obtain⟨b,bs,hb,za,rfl⟩:=Uv h;simp only[xR,DataW.weightsAll,yB]at hw;obtain⟨cs,z7,hb⟩:=xK.1 hb;obtain⟨zs,zb,z8⟩:=hg fuel _ b hb (λk hk=>hw k (.inl hk));obtain⟨z1,h1,h2,h3⟩:=L3 hg fuel n (s+1) bs za (λk hk=>hw k (.inr hk));have zc:=(World.cells?_some z7).2.1;refine⟨zs::z1,by simp[h1],λys z6=>?_,λi ys hi=>?_⟩
  ·rcases yO.1 z6 with rfl|z6
   ·exact⟨zb,by rw[<-z8.1,zc]⟩
   exact h2 ys z6
  rcases i with _|i
  ·simp only[wM,Option.some.injEq]at hi;subst hi;exact⟨cs,by simpa using z7,z8⟩
  obtain⟨zd,h4,h5⟩:=h3 i ys (by simpa using hi);exact⟨zd,by rw[show s+(i+1)=s+1+i by omega];exact h4,h5⟩
def q26{a:Addr}{v:Value}(h:W.cell? a=some v):a.block<W.heap.size:=by
 rcases Nat.lt_or_ge a.block W.heap.size with h'|h'
 ·exact h'
 simp[World.cell?,Array.getElem?_eq_none h']at h
def k0g{ei:TI}{zs:List AV}(z1:ei.agg=true\/zs.length=1)(hl:ei.agg=false->∀z∈zs,z.cells=[z]):(v1m ei zs).cells=zs:=by
 unfold v1m;split
 ·rfl
 rename_i h;have h':ei.agg=false:=by simpa using h
 rcases z1 with h1|h1
 ·rw[h1]at h';cases h'
 obtain⟨z,rfl⟩:=List.length_eq_one_iff.1 h1;exact hl h' z (by simp)
def Shp.leafs{d:Nat}{e:TypeId}{ei:TI}{ys:List AV}(h:Shp T d e ys)(he:look T e=some ei)(ha:ei.agg=false):∀z∈ys,z.cells=[z]:=by
 cases d with
 |zero=>exact h.elim
 |succ d=>
  unfold Shp at h;rw[he]at h;simp only[w0h]at h;unfold TI.agg at ha;split at h
  ·obtain⟨b,rfl⟩:=h;simp[AV.cells]
  ·obtain⟨n,rfl,_⟩:=h;simp[AV.cells]
  ·obtain⟨s,rfl,_⟩:=h;simp[AV.cells]
  ·obtain⟨_,xs,_,rfl,_⟩:=h;simp[AV.cells]
  ·rename_i hd;rw[hd]at ha;cases ha
  ·rename_i hd;rw[hd]at ha;cases ha
  exact h.elim
def Pq(hT:TOk P T):∀(d:Nat) (t:TypeId),O4 T d t=true->Goal enc P T W d t
 |0,_,hs=>by cases hs
 |d+1,t,hs=>by
  intro fuel cs x h hw;unfold O4 at hs;cases hi:look T t with
  |none=>rw[hi]at hs;cases hs
  |some i=>
   rw[hi]at hs;simp only at hs;have hu:=TOk.und hT hi;have hc:=TOk.cellsOf hT hi;cases fuel with
   |zero=>simp[DataW.trod]at h
   |succ fuel=>
    unfold DataW.trod at h;simp only[Shp,hi,w0h];have z1:∀ {q:TypeDesc},P.underlying t=some q->i.desc=q:=λhq=>by rw[hu]at hq;exact Option.some.inj hq
    split at h
    case h_1 b hq=>rw[z1 hq]at hs |-;simp only[Option.some.injEq]at h;exact⟨_,⟨b,rfl⟩,.one (.bool b)⟩
    case h_2 k k' n hq=>
     rw[z1 hq]at hs |-;split at h
     ·rename_i hk;obtain⟨rfl,hk⟩:=hk;simp only[Lit.wf,yJ,decide_eq_true_eq]at hk;exact⟨_,⟨n,rfl,hk.1,hk.2⟩,.one (.int _ n)⟩
     cases h
    case h_4 s hq=>
     rw[z1 hq]at hs |-;split at h
     ·simp only[Option.some.injEq]at h;subst h;refine⟨_,⟨s.data.toList,rfl,hw _ (by simp[DataW.weights])⟩,.one ?_⟩;have:Value.string s= .string ⟨s.data.toList.toArray⟩:=by cases s;simp
      rw[this];exact .str _
     cases h
    case h_7 e hq=>
     rw[z1 hq]at hs |-;simp only[yJ]at hs;obtain⟨⟨_,zf⟩,z6⟩:=hs;cases he:look T e with
     |none=>rw[he]at z6;cases z6
     |some ei=>exact⟨_,⟨ei,[],he,rfl,by simp,by simp⟩,.one (.list _ _ _ 0 _ (λ_ _=>undef) rfl (by simp) (by unfold maxLen;omega) (by simp) (λh0=>by simp at h0) (by simp))⟩
    case h_8 e a len cap hq=>
     rw[z1 hq]at hs |-;simp only[yJ]at hs;obtain⟨⟨_,zf⟩,z6⟩:=hs;cases he:look T e with
     |none=>rw[he]at z6;cases z6
     |some ei=>
      rw[he]at z6;simp only[yJ,Bool.or_eq_true,beq_iff_eq,decide_eq_true_eq]at z6;obtain⟨z6,hz⟩:=z6;have zd:=TOk.cellsOf hT he;have zh:=TOk.bytesOf hT he;rw[zd]at h;split at h
      ·rename_i hcap;simp only[xK,zX]at h;obtain⟨elems,ze,rest,_,rfl⟩:=h;simp only[DataW.weights,hq,yO,yB]at hw;rw[uM]at ze;obtain⟨zb,h1,h2,h3⟩:=L3 (Pq hT d e zf) fuel len 0 elems ze (λk hk=>hw k (.inr (.inl hk)));have hlen:elems.length=len:=by have:=mapM_some_length ze;simpa using this
       have za:∀ys∈zb,(v1m ei ys).cells=ys:=λys z7=>by have:=h2 ys z7;refine k0g (z6.imp_right λh=>by rw[this.2,h]) (λha=>this.1.leafs he ha)
       refine⟨_,⟨ei,zb.map (v1m ei),he,rfl,?_,λx hx=>?_⟩,.one ?_⟩
       ·have:=hw _ (.inl rfl);simp only[yL]at this |-;rw[zh]at this;rw[h1];refine yW (yK _ ?_) this;omega
       ·obtain⟨ys,z7,rfl⟩:=zU.1 hx;exact⟨ys,rfl,(h2 ys z7).1⟩
       refine .list (some a) len cap ei.size _ (λi j=>(((W.cells? 0 (a.add (i * ei.size)) ei.size).getD [])[j]?).getD undef) (by simp[h1]) (by simp[h1];exact hcap.2.1) hcap.2.2 (λx hx=>?_) (λh0=>?_) (λi x hx j y hy=>?_)
       ·obtain⟨ys,z7,rfl⟩:=zU.1 hx;rw[za ys z7];exact(h2 ys z7).2
       ·have key:∀i j,i<(zb.map (v1m ei)).length->j<ei.size->W.cell? (a.add (i * ei.size+j))=some ((((W.cells? 0 (a.add (i * ei.size)) ei.size).getD [])[j]?).getD undef):=λi j zg hj=>by
         simp only[yL]at zg;obtain⟨cs,z8,hr⟩:=h3 i zb[i] (by simp[zg]);rw[wA]at z8;rw[z8,ww];obtain⟨_,q2,q3⟩:=World.cells?_some z8;have:=q3 j hj;rw[add_add]at this;rw[this];have zi:j<cs.length:=by omega
         simp[zi]
        refine⟨a,rfl,λ_=>?_,key⟩;have:=q26 (key 0 0 h0 hz)
        rwa [block_add]at this
       rw[z_]at hx;obtain⟨ys,z7,rfl⟩:=zX.1 hx;have hm:=zL z7;rw[za ys hm]at hy;obtain⟨cs,z8,hr⟩:=h3 i ys z7;rw[wA]at z8;rw[z8,ww];have hj:j<cs.length:=by rw[hr.1];exact(zE.1 hy).1
       have:=hr.2 j cs[j] y (by simp[hj]) hy;simpa[hj]using this
      cases h
    case h_9 cs _ _ fs hq=>
     rw[z1 hq]at hs |-;simp only[yJ,yE]at hs;split at h
     ·rename_i hl;rw[hc]at hl;obtain⟨xs,zc,rfl⟩:=zX.1 h;simp only[DataW.weights,hq]at hw;obtain⟨ys,h1,h2⟩:=Kd hT fs.toList 0 i.size cs hs.1 hl (λf hf=>Pq hT d f.type (hs.2 f hf)) fuel xs zc hw;exact⟨ys,h1,by simpa using h2⟩
     cases h
    case h_10 cs _ _ n e hq=>
     rw[z1 hq]at hs |-;simp only[yJ]at hs;cases he:look T e with
     |none=>rw[he]at hs;cases hs.2
     |some ei=>
      rw[he]at hs;simp only[beq_iff_eq]at hs;have zd:=TOk.cellsOf hT he;split at h
      ·rename_i hl;rw[hc,hs.2]at hl;obtain⟨xs,zc,rfl⟩:=zX.1 h;simp only[DataW.weights,hq]at hw;rw[zd,uM]at zc;obtain⟨ys,h1,h2⟩:=Zs (Pq hT d e hs.1) n 0 cs (by simpa using hl) fuel xs zc hw;exact⟨ys,h1,by simpa using h2⟩
      cases h
    all_goals first
     |(cases h;done)
     |(rename_i hq;rw[z1 hq]at hs;cases hs;done)
     |(rename_i hq _;rw[z1 hq]at hs;cases hs;done)
     |(rename_i hq _ _;rw[z1 hq]at hs;cases hs;done)
     |skip
def Ap(T:TT)(d:Nat):List TypeId->List AV->Prop
 |[],xs=>xs=[]
 |t::ts,xs=>∃i zs rest,look T t=some i/\xs=v1m i zs::rest/\Shp T d t zs/\Ap T d ts rest
def g1c (hT:TOk P T) {d:Nat} {t:TypeId} (hs:O4 T d t=true) {r:Reach} {base:Nat} {v:Value} (z1:Value.okWide P W r base t v) {D:DataW H} {ps:List MemPlace} (h:DataW.Trod enc P W 0 (λ_=>true) true t v D ps)
  (hw:∀n∈D.weights P t,n<=reachBytes):∃i zs,look T t=some i/\Shp T d t zs/\PVR W (·<W.heap.size) v (v1m i zs):=by
 obtain⟨fuel,hf⟩:=h;obtain⟨ys,h1,h2⟩:=Pq hT d t hs fuel _ _ hf hw;cases d with
 |zero=>cases hs
 |succ d=>
  have z6:=h1;unfold Shp at h1;cases hi:look T t with
  |none=>rw[hi]at h1;exact h1.elim
  |some i=>
   rw[hi]at h1;have hu:=TOk.und hT hi;refine⟨i,ys,rfl,z6,?_⟩;unfold Value.okWide at z1;rw[hu]at z1;unfold v1m;by_cases ha:i.agg=true
   ·rw[if_pos ha];unfold TI.agg at ha;have:∃cs,v= .agg cs:=by
     split at ha
     ·rename_i hd;rw[hd]at z1;obtain⟨cs,hc,_⟩:=z1;exact⟨cs,hc⟩
     ·rename_i hd;rw[hd]at z1;obtain⟨cs,hc,_⟩:=z1;exact⟨cs,hc⟩
     cases ha
    obtain⟨cs,rfl⟩:=this;exact .agg cs ys (by simpa[Value.cells]using h2.1) (λj u y hu hy=>h2.2 j u y (by simpa[Value.cells]using hu) hy)
   rw[if_neg ha];have z7:∃y,ys=[y]:=by
    simp only[w0h]at h1;unfold TI.agg at ha;split at h1
    ·obtain⟨b,rfl⟩:=h1;exact⟨_,rfl⟩
    ·obtain⟨b,rfl,_⟩:=h1;exact⟨_,rfl⟩
    ·obtain⟨b,rfl,_⟩:=h1;exact⟨_,rfl⟩
    ·obtain⟨_,xs,_,rfl,_⟩:=h1;exact⟨_,rfl⟩
    ·rename_i hd;rw[hd]at ha;exact absurd rfl ha
    ·rename_i hd;rw[hd]at ha;exact absurd rfl ha
    exact h1.elim
   obtain⟨y,rfl⟩:=z7;have z8:∀cs,v≠ .agg cs:=by
    rintro cs rfl;have hcell:Cell.okWide P W r base t (.agg cs):=by
     unfold TI.agg at ha;split at z1
     ·rename_i heq;rw[Option.some.inj heq]at ha;exact absurd rfl ha
     ·rename_i heq;rw[Option.some.inj heq]at ha;exact absurd rfl ha
     exact z1
    simp only[w0h]at h1;unfold Cell.okWide at hcell;rw[hu]at hcell;split at h1;all_goals first|(exact h1.elim)|skip
    all_goals (rename_i hd;rw[hd]at hcell)
    all_goals first|(simp[Cell.ok,hu,hd]at hcell;done)|skip
   have za:v.cells.toList=[v]:=by cases v<;>first|rfl|exact absurd rfl (z8 _)
   rw[za]at h2;exact h2.2 0 v y rfl rfl
def B2(hT:TOk P T){d:Nat}{r:Reach}{base:Nat}:∀(ts:List TypeId) (vs:List Value) (ds:List (DataW H)) (ps:List MemPlace),ts.all (O4 T d)=true->DataW.TrodAll enc P W 0 (λ_=>true) true ts vs ds ps->
  (∀(j:Nat) t v,ts[j]?=some t->vs[j]?=some v->Value.okWide P W r base t v)->(∀n∈DataW.weightsEach P ts ds,n<=reachBytes)->
  ds.length=ts.length/\∃xs,Ap T d ts xs/\vs.length=xs.length/\∀(j:Nat) (v:Value) (x:AV),vs[j]?=some v->xs[j]?=some x->PVR W (·<W.heap.size) v x
 |[],vs,ds,ps,_,h,_,_=>by obtain⟨rfl,rfl,_⟩:=trodAll_nil h;exact⟨rfl,[],rfl,rfl,by simp⟩
 |t::ts,vs,ds,ps,hs,h,z1,hw=>by
  obtain⟨v,z6,D,z7,p,q,rfl,rfl,rfl,h0,h1⟩:=trodAll_cons h;simp only[uK,yJ]at hs;simp only[DataW.weightsEach,yB]at hw;obtain⟨i,zs,g1,g2,g3⟩:=g1c hT hs.1 (z1 0 t v rfl rfl) h0 (λn hn=>hw n (.inl hn));obtain⟨k0,xs,k1,k2,k3⟩:=B2 hT ts z6 z7 q hs.2 h1 (λj t v a b=>z1 (j+1) t v (by simpa using a) (by simpa using b)) (λn hn=>hw n (.inr hn));refine⟨by simp[k0],v1m i zs::xs,⟨i,zs,xs,g1,rfl,g2,k1⟩,by simp[k2],λj u x hu hx=>?_⟩;rcases j with _|j
  ·simp only[wM,Option.some.injEq]at hu hx;subst hu;subst hx;exact g3
  exact k3 j u x (by simpa using hu) (by simpa using hx)
def Sr(hl:laidOutB P=true){W':World}{sp:Nat->Bool}:∀(ts:List TypeId) (vs:List Value) (ds:List (DataW H)) (ps:List MemPlace),(ts.all λt=>P.readableRec t && decide (t<P.types.size))=true->
  DataW.TrodAll enc P W 0 (λ_=>true) true ts vs ds ps->(∀p∈ps,W.sameAt W' p)->(∀p∈ps,sp p.block=true)->DataW.TrodAll enc P W' 0 sp true ts vs ds ps
 |[],vs,ds,ps,_,h,_,_=>by obtain⟨rfl,rfl,rfl⟩:=trodAll_nil h;rfl
 |t::ts,vs,ds,ps,hr,h,z1,hsp=>by
  obtain⟨v,z6,D,z7,p,q,rfl,rfl,rfl,h0,h1⟩:=trodAll_cons h;simp only[uK,yJ,decide_eq_true_eq]at hr;exact⟨p,q,WideElems.Trod_stays hl hr.1.1 hr.1.2 h0 (λx hx=>z1 x (by simp[hx])) (λx hx=>hsp x (by simp[hx])),
   Sr hl ts z6 z7 q hr.2 h1 (λx hx=>z1 x (by simp[hx])) (λx hx=>hsp x (by simp[hx])),rfl⟩
def j0r {fn:Func} {s:ChangeSpec} {apart fresh handsOn again:Bool} {W':World} {args:Array Value} {ds:List (DataW H)} {before:List MemPlace} {tb:TypeId} (hl:laidOutB P=true)
  (z6:fn.resultTypes= #[tb]) (hb:P.underlying tb=some .bool) (z7:(fn.params.toList.all λt=>P.readableRec t && decide (t<P.types.size))=true) (z1:s.vars=[])
  (z8:s.fn H ds={ results:=[.lit (.bool true)],args:=ds })
  (hW:DataW.Whole enc P fn.params.toList s.vars apart W args.toList ds [] before) (zb:Below W.heap.size W W'):s.post enc P fn apart fresh handsOn again W args (.bool true) W':=by
 have za:=hW.lt;have zc:=hW;obtain⟨p,q,hA,hV,rfl,hz,hn⟩:=hW;rw[z1]at hV;obtain⟨_,rfl⟩:=trodVars_none hV;simp only[xO]at zc za hz hn;have hst:∀sp:Nat->Bool,(∀x∈p,sp x.block=true)->DataW.TrodAll enc P W' 0 sp true fn.params.toList args.toList ds p:=λsp ze=>Sr hl _ _ _ _ z7 hA (λx hx=>zb.same (za x hx)) ze;have hold:∀x∈p,(λb=>decide (b<W.heap.size)) x.block=true:=λx hx=>by simpa using za x hx
 have zd:∀(b:Nat) (sp:Nat->Bool) (hd:Bool),DataW.TrodAll enc P W' b sp hd fn.resultTypes.toList ((Value.bool true).resultList fn.resultTypes.size) (s.fn H ds).results []:=λb sp hd=>by rw[z6,z8];exact trodAll_mk1 (shut_bool hb true)
 refine⟨ds,[],p,[],p,[],zc,by simpa using zd _ _ _,by simpa[z8]using hst _ hold,by rw[xO,z8,z1];rfl,World.keptBut_mono (λx hx=>⟨hx,.inr (.inl hx)⟩) (zb.frame (·∈p)),λ_=>?_⟩;refine⟨ok_one z6 rfl (okWide_bool_mk hb true),_,[],([]++p)++[],⟨[]++p,[],trodAll_append (by simpa[z8]using hst _ (λ_ _=>rfl)) (by simpa using zd _ _ _),by rw[z1];rfl,rfl,?_,?_⟩,?_⟩
 ·intro b off hp;simp only[u5,xO]at hp;have zf:=za _ hp;rw[zb.frozen zf];exact hz b off hp
 ·intro ha;simpa using hn ha
 intro x hx _;simpa using hx
def y1u (hT:TOk P T) (hl:laidOutB P=true) {f:FuncId} {fn:Func} {d:Nat} {tb:TypeId} (z8:fn.resultTypes= #[tb]) (hb:P.underlying tb=some .bool)
  (z7:(fn.params.toList.all λt=>P.readableRec t && decide (t<P.types.size))=true) (z1:fn.params.toList.all (O4 T d)=true)
  (hE:EOK P W (·<W.heap.size)) (zc:∀xs,Ap T d fn.params.toList xs->PC P f xs (λr=>r= .bool true)) {s:ChangeSpec} (z6:s.vars=[])
  (zd:∀ds:List (DataW H),ds.length=fn.params.toList.length->s.fn H ds={ results:=[.lit (.bool true)],args:=ds }) {apart fresh handsOn again:Bool}
  {base:Nat} {args:Array Value} {ds gs:List (DataW H)} {before:List MemPlace} (za:∀(j:Nat) t v,fn.params[j]?=some t->args[j]?=some v->Value.okWide P W .any base t v)
  (hW:DataW.Whole enc P fn.params.toList s.vars apart W args.toList ds gs before) {vt:List TypeId} (ze:vt=[]) (zb:(DataW.weightsEach P (fn.params.toList++vt) (ds++gs)).all (·<=reachBytes)=true):
  Calls P f args W λe W'=>∃v,e= .returned v/\s.post enc P fn apart fresh handsOn again W args v W':=by
 have zf:=hW;obtain⟨p,q,hA,hV,rfl,hz,hn⟩:=hW;rw[z6]at hV;obtain⟨rfl,rfl⟩:=trodVars_none hV;rw[ze,xO,xO]at zb;have hw:∀n∈DataW.weightsEach P fn.params.toList ds,n<=reachBytes:=λn hn=>by simpa using yE.1 zb n hn
 obtain⟨hlen,xs,hx,zg,zh⟩:=B2 hT fn.params.toList args.toList ds p z1 hA (λj t v a b=>za j t v (by simpa using a) (by simpa using b)) hw;refine((zc xs hx).2 W (·<W.heap.size) args hE (λ_ h=>h) (by simpa using zg) (λj v x a b=>zh j v x (by simpa using a) b)).mono ?_;rintro e W' ⟨v,I',r,rfl,rfl,zi,_,_,hv⟩;cases hv;exact⟨_,rfl,j0r hl z8 hb z7 z6 (zd ds hlen) (by simpa using zf) zi⟩
end
end
section
open Go.RowKit
section
variable {P:Program} [Env P] {T:TT} {nt k:Nat} {S:AS} {ops:Array Oper} {o:Oper} {R:AS->Prop}
@[simp] def byteAV (c:UInt8):AV:= .int .u8 c.toNat
def w01 (hT:TOk P T) {wr:Bool} (hw:Qt ops S o=some true) {x:Operand} {src dst e:TypeId} (ho:o.op= .convert src dst x) {it ei idst:TI} (ht:look T src=some it) (hit:it.desc= .slice e) (he:look T e=some ei) (ze:ei.desc= .int .u8)
  (z8:look T dst=some idst) (hid:idst.desc= .string) {xv:AV} (hx:rho S.sl x=some xv) {s:List UInt8} (hs:Se S.hp xv=some (s.map byteAV)) (hd:Wm nt o=true) (hR:R (S.putD o.dst (.str s))):We P nt k wr ops o S R:=λC a w K Q hst hK=>by
 unfold OpW;rw[if_pos (hst.wanted hw)];obtain⟨I,m,zb,zc,hk,hE⟩:=hst;obtain⟨ao,cap,u,zd,hcell,zf⟩:=Ip zb (Qq zc hx) hs;have z1:=hT.und ht;rw[hit]at z1;have z6:=hT.und he;rw[ze]at z6;have z7:=hT.und z8;rw[hid]at z7;rw[yL]at zd hcell;have za:(convert src dst (a.eval x)).run P w= .ok (.string ⟨s.toArray⟩) w:=by
  rw[zd];rcases vA s.length with h0|h0
  ·have zg:=wp h0;subst zg;cases ao with
   |none=>rw[run_convert_bytes_string w src dst e none _ cap z1 z6 z7];simp[Conv.bytesToString];rfl
   |some ad=>exact run_convert_bytes_back w src dst e ad cap [] z1 z6 z7 (λj hj=>by simp at hj)
  obtain⟨ad,rfl,c,zh,zi⟩:=hcell h0;refine run_convert_bytes_back w src dst e ad cap s z1 z6 z7 (λj hj=>?_);have hc:c=1:=by rw[<-zh (byteAV s[0]) (zU.2 ⟨s[0],zT h0,rfl⟩)];rfl
  subst hc;have h1:=zi j 0 hj (by omega);rw[Nat.mul_one,Nat.add_zero]at h1;have h2:=zf j (byteAV s[j]) (by simp[hj]) 0 (byteAV s[j]) rfl;rw[h1];have h3:u j 0= .int .u8 (s[j]).toNat:=(VR.pure (m:=m) (n:=0) h2).int_inv;rw[h3]
 unfold wpA;have:(execOp a.eval o).run P w= .ok (.value (.string ⟨s.toArray⟩)) w:=by simp only[execOp,ho];rw[Sem.run_bind,za];rfl
 rw[this];exact hK _ _ w hR (St.value zc hk hE zb (Fut.refl _ _ _ _) (zW _) (Qm hd) (.pure (.str _))) (λ_=>Tn.refl w)
end
end
section
open Go.RowKit
def AV.val:AV->Option Value
 | .bool b=>some (.bool b)
 | .int k n=>some (.int k n)
 | .str s=>some (.string ⟨s.toArray⟩)
 |_=>none
def PVR.val{w:World}{I:Nat->Prop}{v u:Value}{x:AV}(h:PVR w I v x)(hx:x.val=some u):v=u:=by cases x<;>simp[AV.val]at hx<;>subst hx<;>cases h<;>rfl
end
section
open Go.RowKit
section
variable {P:Program} [Env P] {T:TT} {nt k:Nat} {Q:Exit->AS->Prop} {S:AS} {ops:Array Oper} {o:Oper} {R:AS->Prop}
def x1p {wr:Bool} (hw:Qt ops S o=some true) (hd:Wm nt o=true) {r:AV}
  (h:∀(W0:World) (I0:Nat->Prop) (w:World) (I:Nat->Prop) (m:Nat->Option Nat) (a:Act),WS W0 I0 w I m S.hp->E6 nt S.sl a w I m S.hp.length->
   ∃v,(execOp a.eval o).run P w= .ok (.value v) w/\VR w I m S.hp.length v r) (hR:R (S.putD o.dst r)):We P nt k wr ops o S R:=λC a w K Q hst hK=>by
 unfold OpW;rw[if_pos (hst.wanted hw)];obtain⟨I,m,z6,z7,hk,hE⟩:=hst;obtain⟨v,z1,hv⟩:=h _ _ w I m a z6 z7;unfold wpA;rw[z1];exact hK _ _ w hR (St.value z7 hk hE z6 (Fut.refl _ _ _ _) (zW _) (Qm hd) hv) (λ_=>Tn.refl w)
end
end
section
open Go.RowKit
section
variable {W0 w:World} {I0 I:Nat->Prop} {m:Nat->Option Nat} {H:List AObj}
def WS.addI(h:WS W0 I0 w I m H){l:Nat}(h1:l<w.heap.size)(h2:W0.heap.size<=l)(h3:∀(id:Nat) (o:AObj),H[id]?=some o->o.live=true->m id≠some l):WS W0 I0 w (λb=>I b\/b=l) m H:=by
 have hf:Fut H.length w I m w (λb=>I b\/b=l) m:=⟨⟨λ_ h=> .inl h,λ_ _=>rfl⟩,λ_ _=>rfl,λ_ _ h=>h⟩
 refine⟨h.below,λb hb=> .inl (h.i0 b hb),λb hb=>?_,λid o ho=>(h.obj id o ho).mono hf (zW _) (λ_ _ _=>rfl),λid o b ho hl hm=>?_,h.inj⟩
 ·rcases hb with hb|rfl
  ·exact h.iw b hb
  exact⟨h1,.inr h2⟩
 have:=h.own id o b ho hl hm;refine⟨this.1,λhc=>?_,this.2.2⟩;rcases hc with hc|rfl
 ·exact this.2.1 hc
 exact h3 id o ho hl hm
def WS.revive (h:WS W0 I0 w I m H) {q l:Nat} {o':AObj} (ho:H[q]?=some .dead) (hm:m q=some l) (h1:l<w.heap.size) (h2:W0.heap.size<=l) (hI:¬I l) (h3:∀(id:Nat) (o:AObj),H[id]?=some o->o.live=true->m id≠some l)
  (hO:Uo w I m H.length (some l) o'):WS W0 I0 w I m (H.set q o'):=by
 have hq:q<H.length:=(zE.1 ho).1;have z1:∀(k:Nat) (p:AObj),(H.set q o')[k]?=some p->(k≠q/\H[k]?=some p)\/(k=q/\p=o'):=λk p hp=>by
  by_cases hk:k=q
  ·subst hk;rw[zS hq]at hp;exact .inr ⟨rfl,(Option.some.inj hp).symm⟩
  rw[zH (by omega)]at hp;exact .inl ⟨hk,hp⟩
 refine⟨h.below,h.i0,h.iw,λk p hp=>?_,λk p c hp lp mc=>?_,λi j oi oj c hi hj li lj mi mj=>?_⟩
 ·rw[wI];rcases z1 k p hp with⟨_,h5⟩|⟨rfl,rfl⟩
  ·exact h.obj k p h5
  rw[hm];exact hO
 ·rcases z1 k p hp with⟨_,h5⟩|⟨rfl,rfl⟩
  ·exact h.own k p c h5 lp mc
  rw[hm]at mc;cases mc;exact⟨h2,hI,h1⟩
 rcases z1 i oi hi with⟨a1,a2⟩|⟨rfl,rfl⟩
 ·rcases z1 j oj hj with⟨b1,b2⟩|⟨rfl,rfl⟩
  ·exact h.inj i j oi oj c a2 b2 li lj mi mj
  rw[hm]at mj;cases mj;exact absurd mi (h3 i oi a2 li)
 rcases z1 j oj hj with⟨b1,b2⟩|⟨rfl,rfl⟩
 ·rw[hm]at mi;cases mi;exact absurd mj (h3 j oj b2 lj)
 rfl
end
def Rz:List (Nat×AV)->List Tmp->List AV->List (Nat×AV)
 |sl,p::ps,x::xs=>Rz (put sl p x) ps xs
 |sl,_,_=>sl
def Sn{w:World}{I:Nat->Prop}{m:Nat->Option Nat}{n nt:Nat}:∀(ps:List Tmp) (xs:List AV) (vs:List Value) (sl:List (Nat×AV)) (tm:Array Value),ps.length=xs.length->vs.length=xs.length->(ps.all λp=>decide (p<nt))=true->
  (∀(i:Nat) (v:Value) (x:AV),vs[i]?=some v->xs[i]?=some x->VR w I m n v x)->tm.size=nt->(∀(t:Nat) (x:AV),look sl t=some x->∃v,tm[t]?=some v/\VR w I m n v x)->
  ((ps.zip vs).foldl (λ(tm:Array Value) (p:Tmp×Value)=>tm.setIfInBounds p.1 p.2) tm).size=nt/\∀(t:Nat) (x:AV),look (Rz sl ps xs) t=some x->∃v,((ps.zip vs).foldl (λ(tm:Array Value) (p:Tmp×Value)=>tm.setIfInBounds p.1 p.2) tm)[t]?=some v/\VR w I m n v x
 |[],_,_,sl,tm,_,_,_,_,h1,h2=>⟨h1,h2⟩
 |p::ps,[],_,_,_,hl,_,_,_,_,_=>by cases hl
 |p::ps,x::xs,[],_,_,_,hl,_,_,_,_=>by cases hl
 |p::ps,x::xs,v::vs,sl,tm,z1,z6,hp,hv,h1,h2=>by
  simp only[uK,yJ,decide_eq_true_eq]at hp;simp only[List.zip_cons_cons,List.foldl_cons,Rz];refine Sn ps xs vs (put sl p x) _ (by simpa using z1) (by simpa using z6) hp.2 (λi v x a b=>hv (i+1) v x a b) (by simpa using h1) (λt y hy=>?_);rw[Gu]at hy;by_cases ht:t=p
  ·subst ht;rw[if_pos rfl]at hy;cases hy;exact⟨v,by simp[h1,hp.1],hv 0 v _ rfl rfl⟩
  rw[if_neg ht]at hy;obtain⟨u,hu,hr⟩:=h2 t y hy;exact⟨u,by rw[Array.getElem?_setIfInBounds_ne (Ne.symm ht)];exact hu,hr⟩
section
variable {P:Program} [Env P] {T:TT} {nt k:Nat} {S:AS} {ops:Array Oper} {o:Oper} {R:AS->Prop}
def v02(q:Nat)(Rr:Option Code->List AObj->Prop):Exit->AS->Prop
 | .normal,S=>S.hp[q]?=some .dead/\Rr none S.hp
 | .ret,S=>S.hp[q]?=some .dead/\Rr (some .ret) S.hp
 | .exit id,S=>S.hp[q]?=some .dead/\Rr (some (.exit id)) S.hp
 |_,_=>False
def C0{a:Act}{w:World}{cf:Operand}{args:Array Operand}{ts:Array TypeId}(ho:o.op= .call ⟨.value cf,args,ts⟩){l:Nat}(hf:a.eval cf= .func (.yield l) #[] #[]){r:Loop}(hr:w.heap[l]?=some (.loop r))(hs:args.size=r.params.size):
  (execOp a.eval o).run P w= .ok (.round l r.fn ((r.params.zip (args.map a.eval)).foldl (λtmps (t,a)=>tmps.setIfInBounds t a) r.tmps) r.assign r.body) w:=by
 have:=run_yield (P:=P) (args:=args.map a.eval) hr (by simpa using hs);simp only[execOp,ho,resolve,hf,Deferred.ofValue,invoke];simp[this]
def Yv {cf:Operand} {args:Array Operand} {ts:Array TypeId} (hw:Qt ops S o=some true) (ho:o.op= .call ⟨.value cf,args,ts⟩) {q:Nat} (zv:rho S.sl cf=some (.yld q)) {xs:List AV} (zw:Q6 (args.toList.map (rho S.sl))=some xs)
  {zc:Nat} {sl':List (Nat×AV)} {ps:List Tmp} {asg body:Code} (zl:S.hp[q]?=some (.lp true none zc sl' ps asg body)) (hlen:ps.length=xs.length) (zx:(ps.all λp=>decide (p<zc))=true) (hd:Wm nt o=true)
  (Rr:Option Code->List AObj->Prop)
  (z8:AWP P zc S.hp.length asg (Aw (AWP P zc S.hp.length body (v02 q Rr)) (λ_ _=>False)) ⟨Rz sl' ps xs,S.hp.set q .dead⟩)
  (hR:∀(jump:Option Code) (H':List AObj),Rr jump H'->R (({ S with hp:=H'.set q (.lp jump.isNone jump zc sl' ps asg body) }:AS).putD o.dst (.bool jump.isNone))):We P nt k true ops o S R:=λC a w K Q hst hK=>by
 unfold OpW;rw[if_pos (hst.wanted hw)];obtain⟨I,m,zg,zm,hk,hE⟩:=hst;obtain⟨l,zh,hq,zy⟩:=(Qq zm zv).yld_inv;obtain⟨e5,e6⟩:=C4 (g:=true) rfl zm zw;obtain⟨b,r,hb,hh,q1,q2,q3,q4,q5,q6,q7⟩:=zg.obj q _ zl;obtain rfl:l=b:=by rw[zh]at hb;exact Option.some.inj hb
 obtain⟨o1,o2,o3⟩:=zg.own q _ l zl rfl zh;have zz:args.size=r.params.size:=by rw[q3];simp at e5 |-;omega
 unfold wpA;rw[C0 ho zy hh zz];simp only[u1x];have zd:(r.params.zip (args.map a.eval)).foldl (λtmps (t,a)=>tmps.setIfInBounds t a) r.tmps=(ps.zip (args.map a.eval).toList).foldl (λ(tm:Array Value) (p:Tmp×Value)=>tm.setIfInBounds p.1 p.2) r.tmps:=by rw[q3,<-Array.foldl_toList,Array.toList_zip]
 rw[zd];obtain⟨s1,s2⟩:=Sn (w:=w) (I:=I) (m:=m) (n:=S.hp.length) ps xs (args.map a.eval).toList sl' r.tmps hlen (by simpa using e5) zx (λi v x hv hx=>e6 i v x (by simpa using hv) hx) q6 q7;generalize y8:(ps.zip (args.map a.eval).toList).foldl (λ(tm:Array Value) (p:Tmp×Value)=>tm.setIfInBounds p.1 p.2) r.tmps=TM at *
 refine roundIn_of_wpIn trivial ?_;obtain⟨f1,f2⟩:=zg.freeze zl rfl zh;rw[q4,q5];have zn:∀b,I b->b≠l:=λb hb e=>o2 (e▸hb);refine wpIn_mono (z8 ⟨C.W0,C.I0,w,λc=>I c\/c=l,m,C.hE,some l⟩ { tmps:=TM,defers:=[] } w ⟨_,m,f1,⟨s1,trivial,λt x hx=>by
  obtain⟨v,hv,hr⟩:=s2 t x hx;exact⟨v,hv,by simpa using hr.mono f2 (zW _)⟩⟩,by simp,⟨.refl _ _ _ _,(λh=>(by cases h)),λl' hl'=>by cases hl';exact⟨.inr rfl,r,hh⟩⟩⟩) ?_
 rintro e a2 w2 ⟨S2,hQ,I2,m2,g1,g2,g3,g4⟩;cases e with
 |normal=>
  have z6:I2 l:=g4.fut.ext.sub l (.inr rfl);have zi:w2.heap[l]?=some (.loop r):=(g4.fut.ext.imm l (.inr rfl)).trans hh;have zq:l<w2.heap.size:=(yX.1 zi).1;refine⟨w2.putObj l (.loop { r with state:= .busy }),run_beginRound zi (by rw[q1];rfl),?_⟩;have zj:Shut w2 (w2.putObj l (.loop { r with state:= .busy })) I2 (·=l):=⟨World.putObj_size,λb hb=>World.putObj_heap_other hb,λb o hb ho=>by subst hb;rw[zi]at ho;cases ho;rfl,λb es ck hb hm=>by subst hb;rw[zi]at hm;cases hm⟩
  have y0:Below C.W0.heap.size w2 (w2.putObj l (.loop { r with state:= .busy })):=⟨rfl,rfl,rfl,by simp,λb hb=>World.putObj_heap_other (by omega)⟩
  have ze:∀b,b=l->¬C.I0 b:=λb hb h=>by subst hb;exact o2 (zg.i0 _ h)
  have y1:=g1.shut zj y0 ze (λb hb=>by subst hb;exact z6);have y2:∀(id:Nat) (o:AObj),S2.hp[id]?=some o->o.live=true->m2 id≠some l:=λid o ho hl hm=>(g1.own id o l ho hl hm).2.1 z6;have g1'':=y1.addI (l:=l) (by simpa using zq) o1 y2;have zo:(λb=>(I2 b/\¬b=l)\/b=l)=I2:=by
   funext b;apply propext;by_cases hb:b=l
   ·subst hb;simp[z6]
   simp[hb]
  rw[zo]at g1'';have y3:Fut S2.hp.length (w2.putObj l (.loop { r with state:= .busy })) (λb=>I2 b/\¬b=l) m2 (w2.putObj l (.loop { r with state:= .busy })) I2 m2:=⟨⟨λ_ h=>h.1,λ_ _=>rfl⟩,λ_ _=>rfl,λ_ _ h=>h⟩
  have zr:=g2.shut zj;have zt:(w2.putObj l (.loop { r with state:= .busy })).heap[l]?=some (.loop { r with state:= .busy }):=World.putObj_heap_same zq;refine wpIn_mono (hQ ⟨C.W0,C.I0,w2.putObj l (.loop { r with state:= .busy }),I2,m2,C.hE,some l⟩ a2 _ ⟨I2,m2,g1'',⟨zr.1,trivial,λt x hx=>by
   obtain⟨v,hv,hr⟩:=zr.2.2 t x hx;exact⟨v,hv,hr.mono y3 (zW _)⟩⟩,g3,⟨.refl _ _ _ _,(λh=>(by cases h)),λl' hl'=>by cases hl';exact⟨z6,_,zt⟩⟩⟩) ?_
  rintro e4 a4 w4 ⟨S4,z7,I4,m4,k1,k2,k3,k4⟩;have zf:I4 l:=k4.fut.ext.sub l z6;have zk:w4.heap[l]?=some (.loop { r with state:= .busy }):=(k4.fut.ext.imm l z6).trans zt;have zu:l<w4.heap.size:=(yX.1 zk).1;have key:∀jump:Option Code,S4.hp[q]?=some .dead->Rr jump S4.hp->∃v w',(Instr.endRound l jump).run P w4= .ok v w'/\K (a.put o.dst v) w':=λjump y4 y5=>by
   refine⟨_,_,run_endRound jump zk,?_⟩;generalize z1:({ ({ r with state:= .busy }:Loop)with state:=if jump.isNone=true then LoopState.ready else LoopState.done,pending:=jump }:Loop)=r5;have za:Shut w4 (w4.putObj l (.loop r5)) I4 (·=l):=⟨World.putObj_size,λb hb=>World.putObj_heap_other hb,λb o hb ho=>by subst hb;rw[zk]at ho;cases ho;rfl,λb es ck hb hm=>by subst hb;rw[zk]at hm;cases hm⟩
   have zp:Below C.W0.heap.size w4 (w4.putObj l (.loop r5)):=⟨rfl,rfl,rfl,by simp,λb hb=>World.putObj_heap_other (by omega)⟩
   have y6:=k1.shut za zp ze (λb hb=>by subst hb;exact zf);have zb:Fut S.hp.length w I m (w4.putObj l (.loop r5)) (λb=>I4 b/\¬b=l) m4:=by
    refine⟨⟨λb hb=>⟨k4.fut.ext.sub b (g4.fut.ext.sub b (.inl hb)),zn b hb⟩,λb hb=>?_⟩,λid hid=>?_,λb s hs=>?_⟩
    ·rw[za.same b (zn b hb),k4.fut.ext.imm b (g4.fut.ext.sub b (.inl hb)),zj.same b (zn b hb),g4.fut.ext.imm b (.inl hb)]
    ·exact(k4.fut.ids id hid).trans (g4.fut.ids id hid)
    exact(za.fut (m:=m) 0).shape _ _ (k4.fut.shape _ _ ((zj.fut (m:=m) 0).shape _ _ (g4.fut.shape _ _ hs)))
   have y7:m4 q=some l:=(zb.ids q hq).trans zh;have k1'':=y6.revive (o':= .lp jump.isNone jump zc sl' ps asg body) y4 y7 (by simpa using zu) o1 (λh=>h.2 rfl) (λid o ho hl hm=>(k1.own id o l ho hl hm).2.1 zf)
    ⟨l,r5,rfl,World.putObj_heap_same zu,by rw[<-z1],by rw[<-z1],by rw[<-z1];exact q3,by rw[<-z1];exact q4,by rw[<-z1];exact q5,by rw[<-z1];exact q6,λt x hx=>by
     obtain⟨v,hv,hr⟩:=q7 t x hx;exact⟨v,by rw[<-z1];exact hv,hr.mono zb k3⟩⟩
   exact hK _ _ _ (hR jump S4.hp y5) (St.value zm hk hE k1'' zb (by simpa using k3) (Qm hd) (.pure (.bool _))) (λh=>by cases h)
  cases e4 with
  |normal=>exact key none z7.1 z7.2
  |ret=>exact key (some .ret) z7.1 z7.2
  |exit id=>exact key (some (.exit id)) z7.1 z7.2
  |goto l=>exact z7.elim
  |panic c=>exact z7.elim
  |outgrown=>exact z7.elim
 |exit id=>exact hQ.elim
 |goto l=>exact hQ.elim
 |ret=>exact hQ.elim
 |panic c=>exact hQ.elim
 |outgrown=>exact hQ.elim
def Xy{P:Program}{a:Act}{w:World}{g:Operand}{l:Nat}{f:FuncId}{us:Array Value}(hg:a.eval g= .func (.func f) #[] us)(hc:T8 P f):
  ∃d:Deferred,(resolve a.eval (rangeCall g l) 0).run P w= .ok d w/\(invoke d.target d.args).run P w= .ok (.enter f (#[.func (.yield l) #[] #[]]++us)) w:=by
 obtain⟨fn,h1,h2,h3⟩:=hc;have z1:¬fn.name= "runtime.NumGoroutine" :=by simpa using h3
 refine⟨_,by simp only[resolve,hg];rfl,?_⟩;simp[Deferred.ofValue,invoke,callFunc,h1,z1,Act.eval];exact λhb=>absurd h2 (by simp[hb])
def k0r{C:Cx P}{a:Act}{w:World}{I:Nat->Prop}{m:Nat->Option Nat}{fnum:FuncId}{ps:List Tmp}{asg body:Code}(hE:FutC C k a w I m):∃(l:Nat) (mark:List Nat) (w1:World) (r:Loop),(Instr.enterLoop fnum a.tmps ps.toArray asg body C.ro).run P w= .ok (l,mark.map B7) w1/\Below w.heap.size w w1/\w.heap.size<=l/\l<w1.heap.size/\w1.heap[l]?=some (.loop r)/\
   r.state= .ready/\r.pending=none/\r.params=ps.toArray/\r.assign=asg/\r.body=body/\r.tmps=a.tmps/\mark.Nodup/\∀D∈mark,w.heap.size<=D/\D<w1.heap.size/\D≠l/\w1.heap[D]?=some (.deferred (some [])):=by
 cases hro:C.ro with
 |none=>
  refine⟨_,[w.heap.size],_,({ state:= .ready,pending:=none,fn:=fnum,tmps:=a.tmps,params:=ps.toArray,assign:=asg,body:=body,defers:=w.heap.size }:Loop),run_enterLoop_outer _ _ _ _ _,⟨rfl,rfl,rfl,by simp;omega,λb hb=>?_⟩,by omega,by simp,?_,rfl,rfl,rfl,rfl,rfl,rfl,by simp,λD hD=>?_⟩
  ·simp only[World.alloc,vS];rw[if_neg (by simp;omega),if_neg (by omega)]
  ·have:=World.alloc_heap_new (w.alloc (.deferred (some []))) (.loop { state:= .ready,pending:=none,fn:=fnum,tmps:=a.tmps,params:=ps.toArray,assign:=asg,body:=body,defers:=w.heap.size });rw[World.size_alloc]at this;exact this
  obtain rfl:=List.mem_singleton.1 hD;refine⟨zW _,by simp;omega,by omega,?_⟩;simp only[World.alloc,vS];simp
 |some l0=>obtain⟨_,r0,h0⟩:=hE.rnd l0 hro;refine⟨_,[],_,({ state:= .ready,pending:=none,fn:=fnum,tmps:=a.tmps,params:=ps.toArray,assign:=asg,body:=body,defers:=r0.defers }:Loop),run_enterLoop_inner h0 _ _ _ _ _,⟨rfl,rfl,rfl,by simp,λb hb=>?_⟩,zW _,by simp,World.alloc_heap_new _ _,rfl,rfl,rfl,rfl,rfl,rfl,by simp,λD hD=>by cases hD⟩;simp only[World.alloc,vS];rw[if_neg (by omega)]
def y1w {C:Cx P} {a:Act} {w w1 w3:World} {I I':Nat->Prop} {m m':Nat->Option Nat} {l:Nat} {mark:List Nat} {H':List AObj} {rdy:Bool} {pend:Option Code} {ze:Nat} {sl':List (Nat×AV)} {ps':List Tmp} {asg' body':Code}
  (z6:WS C.W0 C.I0 w I m S.hp) (z8:E6 nt S.sl a w I m S.hp.length) (hk:k<=S.hp.length) (hE:FutC C k a w I m) (zi:Below w.heap.size w w1) (zj:w.heap.size<=l) (zf:mark.Nodup)
  (z1:∀D∈mark,w.heap.size<=D/\D<w1.heap.size/\D≠l/\w1.heap[D]?=some (.deferred (some []))) (g2:Fut S.hp.length w I m w1 (λb=>I b\/b∈mark) (upd m S.hp.length (some l)))
  (k1:WS C.W0 C.I0 w3 I' m' H') (k2:S.hp.length+1<=H'.length) (k3:Fut (S.hp.length+1) w1 (λb=>I b\/b∈mark) (upd m S.hp.length (some l)) w3 I' m') (za:H'[S.hp.length]?=some (.lp rdy pend ze sl' ps' asg' body')):
  ∃r3:Loop,w3.heap[l]?=some (.loop r3)/\r3.state≠ .busy/\r3.pending=pend/\St C nt k ⟨S.sl,H'.set S.hp.length .dead⟩ { a with defers:=mark.map B7++a.defers } (w3.putObj l (.loop { r3 with state:= .exhausted })):=by
 obtain⟨b,r3,zb,z7,p1,p2,p3,p4,p5,p6,p7⟩:=k1.obj _ _ za;have zc:m' S.hp.length=some l:=(k3.ids _ (by omega)).trans (Q7 _ _ _);have zg:b=l:=by rw[zc]at zb;exact(Option.some.inj zb).symm
 rw[zg]at z7;refine⟨r3,z7,by rw[p1];cases rdy<;>simp,p2,?_⟩;generalize hO:Obj.loop { r3 with state:= .exhausted }=O;obtain⟨n1,n2⟩:=k1.set (w':=w3.putObj l O) (o':= .dead) za rfl zc (grownBy_putObj' _ _ _) (λs hs=>by
  unfold World.shape? at hs;rw[z7]at hs;cases hs) (λ_ _=>trivial)
 have hF:Fut S.hp.length w I m (w3.putObj l O) I' m':=(g2.trans (uw _) k3).trans (Nat.le_of_succ_le k2) n2;refine⟨I',m',n1,⟨z8.1,trivial,λt x hx=>?_⟩,by simp;omega,⟨hE.fut.trans hk hF,λzh=>?_,λl' hl'=>?_⟩⟩
 ·obtain⟨v,hv,hr⟩:=z8.2.2 t x hx;exact⟨v,hv,hr.mono hF (by simp;omega)⟩
 ·obtain⟨ds,d1,d2,d3⟩:=hE.defs zh;refine⟨mark++ds,by simp[d1],List.nodup_append.2 ⟨zf,d2,λx hx y hy e=>?_⟩,λD hD=>?_⟩
  ·subst e;have h1:=(z6.iw x (d3 x hy).1).1;have h2:=(z1 x hx).1;omega
  rcases yB.1 hD with hD|hD
  ·have zd:(λb=>I b\/b∈mark) D:= .inr hD;refine⟨k3.ext.sub D zd,⟨λhc=>?_,yW z6.below.size (z1 D hD).1⟩,?_⟩
   ·have h1:=(z6.iw D (hE.fut.ext.sub D hc)).1;have h2:=(z1 D hD).1;omega
   rw[World.putObj_heap_other (z1 D hD).2.2.1,k3.ext.imm D zd];exact(z1 D hD).2.2.2
  have:=d3 D hD;exact⟨hF.ext.sub D this.1,this.2.1,by rw[hF.ext.imm D this.1];exact this.2.2⟩
 obtain⟨h1,r',h2⟩:=hE.rnd l' hl';exact⟨hF.ext.sub l' h1,r',by rw[hF.ext.imm l' h1];exact h2⟩
set_option maxHeartbeats 2000000 in
def Ej {Q:Exit->AS->Prop} {g:Operand} {ps:List Tmp} {asg body:Code} {f:FuncId} {cs:List AV} (hg:rho S.sl g=some (.fn (.func f) [] cs)) {Rf:AV->List AObj->Prop}
  (hc:FC P f (.yld S.hp.length::cs) (S.hp++[.lp true none nt S.sl ps asg body]) Rf)
  (hR:∀(r:AV) (H':List AObj),Rf r H'->∃(rdy:Bool) (pend:Option Code) (zg:Nat) (sl':List (Nat×AV)) (ps':List Tmp) (z6 body':Code),H'[S.hp.length]?=some (.lp rdy pend zg sl' ps' z6 body')/\
   (match pend with
   |none=>Q .normal ⟨S.sl,H'.set S.hp.length .dead⟩
   |some c=>AWP P nt k c Q ⟨S.sl,H'.set S.hp.length .dead⟩)):AWP P nt k (.rangeFunc g ps.toArray asg body) Q S:=λC a w hst=>by
 obtain⟨I,m,z8,za,hk,hE⟩:=hst;obtain⟨vs,us,zi,e1,e2,e3,e4⟩:=(Qq za hg).fn_inv;have zj:vs= #[]:=Array.eq_empty_of_size_eq_zero (by simpa using e1);subst zj;refine wpIn_rangeFunc (F:=FW C.ro) λfnum _=>?_
 -- what entering the loop lays
 have zc:=k0r (C:=C) (fnum:=fnum) (ps:=ps) (asg:=asg) (body:=body) hE;obtain⟨l,mark,w1,r,zd,ze,zh,zk,zl,q1,q2,q3,q4,q5,q6,zm,zb⟩:=zc;have g0:=z8.push' (I':=λb=>I b\/b∈mark) ze (λ_ h=> .inl h) (λb hb=>by
  rcases hb with hb|hb
  ·exact⟨xY (z8.iw b hb).1 ze.size,.inl hb⟩
  exact⟨(zb b hb).2.1,.inr (zb b hb).1⟩) (some l) (λb hb=>by
  cases hb;exact⟨zh,zk,λhc=>by
   rcases hc with hc|hc
   ·have:=(z8.iw l hc).1;omega
   ·exact(zb l hc).2.2.1 rfl⟩) (.lp true none nt S.sl ps asg body) (λm' zn zv=>⟨l,r,rfl,zl,by rw[q1];rfl,q2,q3,q4,q5,by rw[q6];exact za.1,λt x hx=>by
   obtain⟨v,hv,hr⟩:=za.2.2 t x hx;exact⟨v,by rw[q6];exact hv,hr.mono zn (uw _)⟩⟩)
 obtain⟨g1,g2⟩:=g0;obtain⟨d,zo,zp⟩:=Xy (w:=w1) (l:=l) zi hc.1;refine⟨l,mark.map B7,w1,d,w1,f,_,w1,zd,zo,λ_ _=>trivial,zp,(λh=>(by cases h)),Ze ?_⟩;have hlen:(S.hp++[AObj.lp true none nt S.sl ps asg body]).length=S.hp.length+1:=by simp
 refine(hc.2 C.W0 C.I0 w1 _ _ (#[.func (.yield l) #[] #[]]++us) C.hE g1 (by simp at e3 |-;omega) (λi v x hv hx=>?_)).mono ?_
 ·rcases i with _|i
  ·rw[yY (by simp)]at hv;simp at hv hx;subst hv;subst hx;exact .yld _ _ (by simp) (Q7 _ _ _)
  rw[vL (by simp)]at hv;simp at hv hx;exact(e4 i v x hv hx).mono g2 (by simp)
 rintro e w3 ⟨v,rv,H',I',m',zq,rfl,k1,k2,k3,k4⟩;rw[hlen]at k2 k3;obtain⟨rdy,pend,zg,sl',ps',z6,body',zr,z1⟩:=hR rv H' zq;obtain⟨r3,zt,zf,zu,z7⟩:=y1w z8 za hk hE ze zh zm zb g2 k1 k2 k3 zr;refine⟨pend,_,(run_endLoop zt zf).trans (congrArg (λx=>Result.ok x _) zu),?_⟩;cases pend with
 |none=>exact⟨_,z1,z7⟩
 |some c=>exact z1 C _ _ z7
end
end
section
open Go.Sort
def PVR.of_val{w:World}{I:Nat->Prop}{u:Value}{x:AV}(hx:x.val=some u):PVR w I u x:=by
 cases x<;>simp[AV.val]at hx<;>subst hx
 ·exact .bool _
 ·exact .int _ _
 exact .str _
structure RowOf (k:Nat) (xs:List AV) (F:Array Value):Prop where
 size:F.size=xs.length * k
 width:∀x∈xs,x.cells.length=k
 cell:∀(i:Nat) (x:AV),xs[i]?=some x->∀(j:Nat) (y:AV),x.cells[j]?=some y->y.val=some F[i * k+j]!
section
variable {W0:World} {I0:Nat->Prop} {w:World} {I:Nat->Prop} {m:Nat->Option Nat} {H:List AObj} {p b:Nat} {e:TypeId} {k:Nat} {xs:List AV} {F:Array Value}
def v1c(z6:WS W0 I0 w I m H)(ho:H[p]?=some (.arr e k xs))(hm:m p=some b)(hF:RowOf k xs F):Holds id w b 0 F/\b<w.heap.size:=by
 obtain⟨_,_,hb⟩:=z6.own p _ b ho rfl hm;refine⟨λj hj=>?_,hb⟩;rcases z6.obj p _ ho with⟨e1,_⟩|⟨b',cap,vs,z7,hh,q1,q2,q3,q4,hr⟩
 ·rw[hm]at e1;cases e1
 obtain rfl:b=b':=by rw[hm]at z7;exact Option.some.inj z7
 have hk:0<k:=by
  rcases vA k with h|h
  ·rw[hF.size,h]at hj;simp at hj
  exact h
 have z8:j<xs.length * k:=by rw[<-hF.size];exact hj
 have hi:j / k<xs.length:=Nat.div_lt_of_lt_mul (by rwa [tw]at z8);have hc:=hF.width _ (zT hi);have z1:j % k<(xs[j / k]).cells.length:=by rw[hc];exact sJ _ hk
 have za:j / k * k+j % k=j:=by rw[tw];exact si _ _
 obtain⟨v,hv,hp⟩:=hr (j / k) _ (zP hi) (j % k) _ (zP z1);have:=hp.val (hF.cell _ _ (zP hi) _ _ (zP z1));rw[za]at hv this;subst this;simp[World.cell?,World.frozen?,hh,hv]
def w17(z8:WS W0 I0 w I m H)(ho:H[p]?=some (.arr e k xs))(hm:m p=some b)(hF:RowOf k xs F){z1:List AV}{F':Array Value}(hl:z1.length=xs.length)(z7:RowOf k z1 F')(n:Nat)(os:Array Obj):
  WS W0 I0 (grow (putRow id (Sort.ahead w n) b 0 F') os) I m (H.set p (.arr e k z1))/\Fut H.length w I m (grow (putRow id (Sort.ahead w n) b 0 F') os) I m:=by
 obtain⟨_,_,hb⟩:=z8.own p _ b ho rfl hm;rcases z8.obj p _ ho with⟨e1,_⟩|⟨b',cap,vs,zb,hh,q1,q2,q3,q4,hr⟩
 ·rw[hm]at e1;cases e1
 obtain rfl:b=b':=by rw[hm]at zb;exact Option.some.inj zb
 have z6:∀c,c<w.heap.size->(grow (putRow id (Sort.ahead w n) b 0 F') os).heap[c]? =if b=c then(w.heap[c]?).map (onCells (putCells id 0 F'))else w.heap[c]? :=by intro c hc;simp only[grow,putRow,mapBlock,Sort.ahead];rw[yY (by simpa using hc),Array.getElem?_modify]
 have zc:(grow (putRow id (Sort.ahead w n) b 0 F') os).heap[b]?=some (.cells (putCells id 0 F' vs) e (0,0)):=by rw[z6 b hb,if_pos rfl,hh];rfl
 have hg:w.grownBy (grow (putRow id (Sort.ahead w n) b 0 F') os) (some b):=⟨rfl,rfl,rfl,by simp[grow,putRow,mapBlock,Sort.ahead],λc hc zd=>by
  rw[z6 c hc,if_neg (λh=>zd (by rw[h]))]⟩
 refine z8.set (o':= .arr e k z1) ho rfl hm hg (λs hs=>?_) (λm' hf=> .inr ⟨b,cap,putCells id 0 F' vs,rfl,zc,by omega,q2,by simp[putCells,q3],z7.width,λi x hx j y hy=>?_⟩)
 ·simp only[World.shape?,hh]at hs;simp only[World.shape?,zc];simpa[putCells]using hs
 have hi:i<z1.length:=(zE.1 hx).1;have hj:j<k:=by have:=z7.width x (zL hx);rw[<-this];exact(zE.1 hy).1
 have ze:i * k+j<z1.length * k:=by have:=yK k (show i+1<=z1.length from hi);rw[yS,sm]at this;omega
 have za:i * k+j<vs.size:=by rw[q3];have:=yK k (show z1.length<=cap by omega);omega
 refine⟨F'[i * k+j]!,?_,PVR.of_val (z7.cell i x hx j y hy)⟩;have:=z7.size;simp only[putCells,Array.getElem?_mapIdx,Array.getElem?_eq_getElem za,wP];rw[if_pos (by omega)];rfl
def G4(v:Value)(us:List Value): #[v]++us.toArray=⟨v::us⟩:=by simp
def w1d {P:Program} [Env P] {f:FuncId} {rest:List AV} (hc:T8 P f) {len:Nat} (zb:xs.length=len) (ho:H[p]?=some (.arr e k xs)) (hF:RowOf k xs F)
  (us:List Value) (hu:∀(w:World) (I:Nat->Prop) (m:Nat->Option Nat) (vs:List Value),vs.length=rest.length->(∀(i:Nat) (v:Value) (x:AV),vs[i]?=some v->rest[i]?=some x->VR w I m H.length v x)->vs=us)
  (Rx:List AV->Prop)
  (h:∀(b cap:Nat) (w:World),Holds id w b 0 F->b<w.heap.size->len<=cap->Calls P f (#[.slice (some ⟨b,0,none⟩) len cap]++us.toArray) w λen w'=>en= .returned (.tuple #[])/\∃(z1:List AV) (F':Array Value) (n:Nat) (os:Array Obj),Rx z1/\z1.length=xs.length/\RowOf k z1 F'/\w'=grow (putRow id (Sort.ahead w n) b 0 F') os)
  (h0:xs=[]->Rx []/\∀(w:World),Calls P f (#[.slice none 0 0]++us.toArray) w λen w'=>en= .returned (.tuple #[])/\w'=w):
  FC P f (.sl p k 0 len::rest) H (λr H'=>r= .tup []/\∃z1,Rx z1/\H'=H.set p (.arr e k z1)):=by
 refine⟨hc,λW0 I0 w I m vals hE z6 z8 hv=>?_⟩;rcases vals with⟨vals⟩
 cases vals with
 |nil=>simp at z8
 |cons v vs=>
  have zc:vs=us:=hu w I m vs (by simpa using z8) λi v x a b=>hv (i+1) v x (by simpa using a) (by simpa using b);subst zc;have zd:=hv 0 v _ rfl rfl;have tupR:∀(w:World) (I:Nat->Prop) (m:Nat->Option Nat) (n:Nat),VR w I m n (.tuple #[]) (.tup []):=λw I m n=> .tup _ _ rfl (λi v x a=>by simp at a);rcases zd.sl_inv with⟨b,cap,t,hb,hn,zg,hle,hmax,z7⟩|⟨hb,hn,_,ze,z7⟩|⟨_,_,hlo,_,_⟩
  ·subst z7;obtain⟨g1,g2⟩:=v1c z6 ho hb hF;have:=h b cap w g1 g2 hle;simp only[tc];refine Calls.mono (by rw[G4]at this;exact this) ?_;rintro en w' ⟨rfl,z1,F',n,os,hx,hl,zf,rfl⟩;obtain⟨k1,k2⟩:=w17 z6 ho hb hF hl zf n os;exact⟨_,_,_,I,m,⟨rfl,z1,hx,rfl⟩,rfl,k1,by simp,k2,tupR _ _ _ _⟩
  ·subst z7;have za:xs=[]:=by cases xs with|nil=>rfl|cons=>simp at zb;omega
   obtain⟨r0,r1⟩:=h0 za;subst ze;refine Calls.mono (by have:=r1 w;rw[G4]at this;exact this) ?_;rintro en w' ⟨rfl,rfl⟩;refine⟨_,_,H,I,m,⟨rfl,[],r0,?_⟩,rfl,z6,zW _,.refl _ _ _ _,tupR _ _ _ _⟩;rw[<-za];exact(xQ λi=>by
    by_cases hi:i=p
    ·subst hi;rw[ho,zS (zE.1 ho).1]
    rw[zH (λh=>hi h.symm)])
  omega
end
end
section
open Go.RowKit
section
variable {P:Program} [Env P] {nt k:Nat} {Q:Exit->AS->Prop}
def Q5 {c:Code} {sl:List (Nat×AV)} {H:List AObj} (t e sz:Nat) (ht:look sl t=some .nils)
  (h:AWP P nt k c Q ⟨put sl t (.sl H.length sz 0 0),H++[.arr e sz []]⟩):AWP P nt k c Q ⟨sl,H⟩:=λC a w hs=>by
 obtain⟨I,m,hw,z1,hk,hf⟩:=hs;obtain⟨g1,g2⟩:=hw.push (Below.refl _ _) none (λb e=>by cases e) (.arr e sz []) (λm' _ _=> .inl ⟨rfl,rfl⟩);refine h C a w ⟨I,upd m H.length none,g1,⟨z1.1,z1.2.1,λs x hx=>?_⟩,by simp at hk |-;omega,hf.trans hk g2⟩;simp only[Gu]at hx;by_cases hst:s=t
 ·rw[if_pos hst]at hx;cases hx;obtain⟨v,hv,hr⟩:=z1.2.2 t _ ht;rw[hst];have:=hr.nils_inv;subst this;exact⟨_,hv,.slnone H.length sz (by simp) (Q7 ..)⟩
 rw[if_neg hst]at hx;obtain⟨v,hv,hr⟩:=z1.2.2 s x hx;refine⟨v,hv,?_⟩;have:=hr.mono (n':=(H++[AObj.arr e sz []]).length) g2 (by simp);simpa using this
end
end
end Go.Abs
