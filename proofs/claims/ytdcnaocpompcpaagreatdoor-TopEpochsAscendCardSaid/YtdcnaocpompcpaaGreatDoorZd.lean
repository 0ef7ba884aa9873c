/- Part Zd of the proof: steps on the way to the last part. No condition. -/
import Derived.Test.YtdcnaocpompcpaaGreatDoorZc
import Derived.Test.YtdcnaocpompcpaaGreatDoorZb
set_option linter.all false
open List renaming flatMap_append->wm,getElem_mem->yB,pairwise_iff_getElem->xW,getElem_cons_zero->wV,getElem?_eq_getElem->zG,getElem?_eq_some_iff->zD,getElem_eq_iff->yR,getElem?_eq_none->wb,mem_map->xg,take_of_length_le->zY,getElem?_append_right->zF,set_cons_succ->v_,set_cons_zero->u0,take_succ_eq_append_getElem->yI,map_append->xG,getElem?_append->yH,getElem?_set->zW,set_append_right->x_,set_append_left->vS,take_length->yV,map_map->uF,map_congr_left->vW,all_eq_true->zV,map_cons->z_,map_nil->yM,drop_zero->xB,mem_singleton->xd,getElem?_map->zU,getElem?_set_self->zJ,getElem?_set_ne->zI,map->wO,mem_append->xu,take->xJ,map_take->uD,getElem_of_mem->wx,replicate->zH
open Nat renaming le_refl->zR,zero_le->yO,le_of_eq->vh,sub_self->uJ
open Int renaming le_refl->wI
set_option maxHeartbeats 8000000
set_option linter.unusedSimpArgs false
set_option maxRecDepth 100000
open Go.Proofs.Tryz
namespace Go.Abs
open Go
section
open Go.Proofs
def WfS.few{s:Snk}(h:WfS s):s.com.length<=4096/\(∀b∈s.pend,b.chs.length<=4096):=by have h1:=h.size;unfold Y2 at h1;refine⟨by omega,λb hb=>?_⟩;obtain⟨l1,l2,e⟩:=List.append_of_mem hb;rw[e,wm,List.flatMap_cons]at h1;simp at h1;omega
def Xa(n:Int):PC prog 119 [.i n] (λr=>r= .bool false):=by refine pcB func119 results119 ntmps119 ?_;simp only[Qf];repeat(refine s_ ?_;simp)
def u0t(a b:Int):Int:=if a<b then -1 else if b<a then 1 else 0
def x09(a b:Int):PC prog 89 [.i a,.i b] (λr=>r= .i (u0t a b)):=by
 refine pcB func89 results89 ntmps89 ?_;simp only[Qf];repeat(refine s_ ?_;simp)
 refine pcL (Xa a) ?_;simp;repeat(refine s_ ?_;simp)
 refine pcL (Xa b) ?_;simp;repeat(refine s_ ?_;simp)
 refine Qh rfl ?_;repeat(refine s_ ?_;simp)
 refine Qh rfl ?_;repeat(refine s_ ?_;simp)
 refine Qb rfl (λh=>?_) (λh=>?_)
 ·repeat(refine s_ ?_;simp)
  simp at h;simp[u0t,h]
 repeat(refine s_ ?_;simp)
 simp at h;have h':¬a<b:=by omega
 refine Qb rfl (λh2=>?_) (λh2=>?_)
 ·repeat(refine s_ ?_;simp)
  simp at h2;simp[u0t,h',h2]
 repeat(refine s_ ?_;simp)
 simp at h2;have z1:¬b<a:=by omega
 simp[u0t,h',z1]
def B5(a b:Int):decide (u0t a b<0)=decide (a<b):=by
 unfold u0t;by_cases h:a<b
 ·simp[h]
 by_cases h2:b<a<;>simp[h,h2]
def z0x(a b:Int):(u0t a b==0)=decide (a=b):=by
 unfold u0t;by_cases h:a<b
 ·simp[h];omega
 by_cases h2:b<a
 ·simp[h,h2];omega
 simp[h,h2];omega
def Pz{s:Snk}(h:WfS s):PC prog 51 [encSk s] (λr=>r= .i 0):=by
 refine pcB func51 results51 ntmps51 ?_;simp only[Qf];obtain⟨f1,f2⟩:=h.few;have e1:=h.e1;have e2:=h.e2;have hlen:=h.len;have q1:¬s.ep<0:=by omega
 have q2:¬1099511627776<s.ep:=by omega
 have q3:¬(256:Int)<s.pend.length:=by omega
 have zl:=h.size;have q4:¬(4096:Int)<Y2 s:=by omega
 have cS:=P5 s (by omega) (by omega) (λb hb=>by have:=f2 b hb;omega) (by omega);simp only[encSk]at cS |-;repeat(refine s_ ?_;simp[q1,q2])
 refine Qh rfl ?_;simp;repeat(refine s_ ?_;simp[q3])
 refine Qh rfl ?_;simp;repeat(refine s_ ?_;simp)
 refine pcL (Ik s.com (by omega)) ?_;simp;repeat(refine s_ ?_;simp)
 refine Qh rfl ?_;simp;repeat(refine s_ ?_;simp)
 refine E9 s.pend.length (λ_=>True) (λj=>[(1,.vptr 0 0),(28,.list (s.pend.map encBt)),(29,.i s.pend.length),(30,.i j)]) (λ_=>[.vars [.i s.ep,.list (s.com.map chA),.list (s.pend.map encBt)]]) rfl (by simp) (by simp) (by simp) (by simp) trivial ?_;intro j hj _ ih;repeat(refine s_ ?_;simp)
 refine Qb rfl (λze=>?_) (λzm=>?_)
 ·have z1:j<s.pend.length:=by simpa using ze
  have hw:=wz j (by omega);have hg:(s.pend.map encBt)[j]?=some (encBt s.pend[j]):=by simp[z1]
  have hh:∀q,(s.pend.map encBt)[j]'q=encBt s.pend[j]:=λq=>by simp
  obtain⟨b1,b2,b3⟩:=h.lo _ (yB z1);have b4:=f2 _ (yB z1);have key:j=0\/∃i,j=i+1:=by cases j;exact .inl rfl;exact .inr ⟨_,rfl⟩
  have z8:∀i (hi:i+1=j),s.pend[i].ep<s.pend[j].ep:=λi hi=>xW.1 h.asc i j (by omega) z1 (by omega);generalize hb:s.pend[j]=b at *
  have q5:¬b.ep<=s.ep:=by omega
  have q6:¬1099511627776<b.ep:=by omega
  have q7:¬((b.chs.length:Int)=0):=by omega
  have q8:¬(b.chs.length=0):=by omega
  repeat(refine s_ ?_;simp[z1,hg,hh,q5,q6])
  refine Qh rfl ?_;simp;rcases key with rfl|⟨i,rfl⟩
  ·have zf:IntKind.i64.wrap (0 - 1)= -1:=by decide
   have za:IntKind.i64.wrap (-1)= -1:=by decide
   repeat(refine s_ ?_;simp)
   refine Qw tOk mixed [] (.val 0 (.val 1 (.val 2 (.val 3 (.val 4 (.val 5 (.val 6 (.val 7 (.val 8 (.val 9 (.val 10 (.val 11 (.val 12 (.val 13 (.val 14 (.done)))))))))))))))) rfl (by kernel_rfl) ?_;simp[zf,za,z1,hg,hh];have hw1:IntKind.i64.wrap 1=1:=by decide
   repeat(refine s_ ?_;simp)
   refine Qh rfl ?_;simp;repeat(refine s_ ?_;simp)
   refine Qb rfl (λh=>by have:=beq_iff_eq.1 h;omega) (λ_=>?_);repeat(refine s_ ?_;simp)
   refine pcL (Ik b.chs (by omega)) ?_;simp;repeat(refine s_ ?_;simp)
   refine Qh rfl ?_;simp;repeat(refine s_ ?_;simp[hw1])
   refine Q8 _ (ih z1 trivial) rfl (by simp) ?_ (by simp) (by simp);simp
  have zg:IntKind.i64.wrap (((i+1:Nat):Int) - 1)=i:=by rw[wrap_i64 _ (by omega) (by omega)];omega
  have zb:IntKind.i64.wrap ((i:Int)+1 - 1)=i:=by rw[wrap_i64 _ (by omega) (by omega)];omega
  have zc:IntKind.i64.wrap (i:Int)=i:=wrap_i64 _ (by omega) (by omega);have zd:i<s.pend.length:=by omega
  have zh:(s.pend.map encBt)[i]?=some (encBt s.pend[i]):=by simp[zd]
  have zi:∀q,(s.pend.map encBt)[i]'q=encBt s.pend[i]:=λq=>by simp
  have q9:¬b.ep<=s.pend[i].ep:=by have:=z8 i rfl;omega
  have zj:(0:Int)<(i:Int)+1:=by omega
  generalize s.pend[i]=d at *
  repeat(refine s_ ?_;simp)
  refine Qw tOk mixed [] (.val 0 (.val 1 (.val 2 (.val 3 (.val 4 (.val 5 (.val 6 (.val 7 (.val 8 (.val 9 (.val 10 (.val 11 (.val 12 (.val 13 (.val 14 (.done)))))))))))))))) rfl (by kernel_rfl) ?_;simp[zg,zb,zc,zd,zh,zi,q9,zj];have zk:IntKind.i64.wrap ((i:Int)+1+1)=(i:Int)+1+1:=wrap_i64 _ (by omega) (by omega);repeat(refine s_ ?_;simp)
  refine Qh rfl ?_;simp;repeat(refine s_ ?_;simp)
  refine Qb rfl (λh=>by have:=beq_iff_eq.1 h;omega) (λ_=>?_);repeat(refine s_ ?_;simp)
  refine pcL (Ik b.chs (by omega)) ?_;simp;repeat(refine s_ ?_;simp)
  refine Qh rfl ?_;simp;repeat(refine s_ ?_;simp[zk])
  refine Q8 _ (ih z1 trivial) rfl (by simp) ?_ (by simp) (by simp);simp
 repeat(refine s_ ?_;simp)
 refine pcL (cS) ?_;simp;repeat(refine s_ ?_;simp)
 refine Qb rfl (λh=>absurd (of_decide_eq_true h) q4) (λ_=>?_);repeat(refine s_ ?_;simp)
def Ll(H:List AObj)(e n:Int)(y:AV)(hy:(∃l,y= .list l)\/∃q m,y= .sl q 3 0 m):FC prog 88 [.agg [.i e,y],.i n] H (λr H'=>r= .i (u0t e n)/\HX H H'):=by
 refine fcB func88 results88 ntmps88 ?_;simp only[Qf];rcases hy with⟨l,rfl⟩|⟨q,m,rfl⟩
 ·repeat(refine s_ ?_;simp)
  refine pcL (x09 e n) ?_;simp;repeat(refine s_ ?_;simp)
  exact(HX.refl H).app _
 repeat(refine s_ ?_;simp)
 refine pcL (x09 e n) ?_;simp;repeat(refine s_ ?_;simp)
 exact(HX.refl H).app _
def okE(l:List Bt)(n:Int)(i:Nat):Bool:=match l[i]? with
 |some b=>decide (b.ep=n)
 |none=>false
def g0t(l:List Bt)(n:Int):lbE l n<=l.length:=(List.takeWhile_sublist _).length_le
def Vn(l:List Bt)(n:Int)(i:Nat)(hi:i<=l.length)(h1:∀k,(h:k<l.length)->k<i->l[k].ep<n)(h2:∀k,(h:k<l.length)->i<=k->n<=l[k].ep):i=lbE l n:=by
 induction l generalizing i with
 |nil=>simp at hi;subst hi;rfl
 |cons b l ih=>
  unfold lbE;rw[List.takeWhile_cons];cases i with
  |zero=>have:=h2 0 (by simp) (zR _);simp only[wV]at this;rw[if_neg (by simp;omega)];rfl
  |succ i=>have:=h1 0 (by simp) (by omega);simp only[wV]at this;rw[if_pos (by simpa using this),List.length_cons];have:=ih i (by simpa using hi) (λk h hk=>by have:=h1 (k+1) (by simp;omega) (by omega);simpa using this) (λk h hk=>by have:=h2 (k+1) (by simp;omega) (by omega);simpa using this);rw[this];rfl
def k0u(l:List Bt)(hl:l.length<=1000000)(zc:l.Pairwise λa b=>a.ep<b.ep)(n:Int)(P:Nat)(rows:List AV)(H:List AObj)(hP:H[P]?=some (.va 134 2 rows))(hr:∀(i:Nat) (b:Bt),l[i]?=some b->∃y:AV,rows[i]?=some (AV.agg [.i b.ep,y])/\((∃l,y= .list l)\/∃q m,y= .sl q 3 0 m)):
  FC prog 87 [.sl P 2 0 l.length,.i n,.fn (.func 88) [] []] H (λr H'=>r= .tup [.i (lbE l n),.bool (okE l n (lbE l n))]/\HX H H'):=by
 refine fcB func87 results87 ntmps87 ?_;simp only[Qf];repeat(refine s_ ?_;simp)
 refine Qk (Qg (sl':=[(0,.sl P 2 0 l.length),(1,.i n),(2,.fn (.func 88) [] []),(8,.i l.length),(9,.i (0:Nat)),(10,.i l.length)]) ?_ (by simp));refine Qp (P:=prog) (F:=λ(u:Nat×Nat×List AObj)=>⟨[(0,.sl P 2 0 l.length),(1,.i n),(2,.fn (.func 88) [] []),(8,.i l.length),(9,.i u.1),(10,.i u.2.1)],u.2.2⟩)
  (λu=>u.1<=u.2.1/\u.2.1<=l.length/\HX H u.2.2/\(∀k,(h:k<l.length)->k<u.1->l[k].ep<n)/\(∀k,(h:k<l.length)->u.2.1<=k->n<=l[k].ep)) (λu=>u.2.1 - u.1) ?_ (0,l.length,H) ⟨yO _,zR _,HX.refl H,λk h hk=>by omega,λk h hk=>by simp only at hk;omega⟩
 have z1:∀i j (hi:i<l.length) (hj:j<l.length),i<=j->l[i].ep<=l[j].ep:=λi j hi hj zh=>by
  rcases Nat.lt_or_ge i j with h|h
  ·have:=xW.1 zc i j hi hj h;omega
  obtain rfl:i=j:=by omega
  exact wI _
 rintro⟨i,j,G⟩ ⟨zh,hj,hx,h1,h2⟩ ih;simp only at zh hj hx h1 h2 ih |-;have gP:=hx _ _ hP;repeat(refine s_ ?_;simp)
 refine Qb rfl (λh=>?_) (λh=>?_)
 ·have zl:i<j:=by simpa using h
  obtain⟨m,hm,zj,zm⟩:∃m:Nat,IntKind.i64.wrap ((IntKind.u64.wrap (IntKind.i64.wrap (↑i+↑j))).fdiv (2 ^ min 1 IntKind.u64.bits))=(m:Int)/\i<=m/\m<j:=by refine⟨(i+j) / 2,?_,by omega,by omega⟩;rw[wrap_i64 ((i:Int)+j) (by omega) (by omega)];rw[show IntKind.u64.wrap ((i:Int)+j)=(i:Int)+j by rw[IntKind.wrap_u64];omega];rw[show(2:Int) ^ min 1 IntKind.u64.bits=2 by rfl,Int.fdiv_eq_ediv_of_nonneg _ (by omega)];rw[wrap_i64 _ (by omega) (by omega)];omega
  have za:m<l.length:=by omega
  obtain⟨y,z8,hy⟩:=hr m _ (zG za);have zd:m<rows.length:=(zD.1 z8).1;have ze:∀q,rows[m]'q= .agg [.i l[m].ep,y]:=λq=>(yR q).2 z8;have hw:=wz m (by omega);repeat(refine s_ ?_;simp[hm,za,gP,z8,zd,ze])
  refine Qd rfl rfl (Ll G l[m].ep n y hy) rfl ?_;rintro r G' ⟨rfl,zb⟩;simp;repeat(refine s_ ?_;simp)
  refine Qb rfl (λh=>?_) (λh=>?_)
  ·rw[B5]at h;simp at h;repeat(refine s_ ?_;simp[hw])
   refine Qg (sl':=[(0,.sl P 2 0 l.length),(1,.i n),(2,.fn (.func 88) [] []),(8,.i l.length),(9,.i (m+1:Nat)),(10,.i j)]) ?_ (by simp);refine ih (m+1,j,G') ⟨by simp only;omega,hj,hx.trans zb,λk hk zf=>?_,h2⟩ (by simp only;omega);have:=z1 k m hk za (by simp only at zf;omega);omega
  rw[B5]at h;simp at h;repeat(refine s_ ?_;simp)
  refine Qg (sl':=[(0,.sl P 2 0 l.length),(1,.i n),(2,.fn (.func 88) [] []),(8,.i l.length),(9,.i i),(10,.i m)]) ?_ (by simp);refine ih (i,m,G') ⟨zj,by simp only;omega,hx.trans zb,h1,λk hk zf=>?_⟩ (by simp only;omega);have:=z1 m k za hk zf;omega
 have zk:i=j:=by simp at h;omega
 subst zk;have zi:=Vn l n i hj h1 h2;by_cases hi:i<l.length
 ·obtain⟨y,z8,hy⟩:=hr i _ (zG hi);have zd:i<rows.length:=(zD.1 z8).1;have ze:∀q,rows[i]'q= .agg [.i l[i].ep,y]:=λq=>(yR q).2 z8;repeat(refine s_ ?_;simp[hi,gP,z8,zd,ze])
  refine Qd rfl rfl (Ll G l[i].ep n y hy) rfl ?_;rintro r G' ⟨rfl,zb⟩;simp;repeat(refine s_ ?_;simp)
  rw[<-zi,z0x];exact⟨⟨rfl,by rw[okE,zG hi]⟩,hx.trans zb⟩
 repeat(refine s_ ?_;simp[hi])
 have zg:l.length<=i:=by omega
 refine Wp (by simp[zg]) rfl ?_;simp[zg];repeat(refine s_ ?_;simp)
 rw[<-zi];exact⟨⟨rfl,by rw[okE,wb zg]⟩,hx⟩
end
section
open Go.Proofs
def P9(l:List Int)(hb:l.length<=1000000):FR prog 86 [.list (l.map chA)] 78 3 (λr=>r=l.map chA):=by
 refine D3 tOk func86 rfl results86 rfl (by simp[ntmps86]) ?_;rw[ntmps86];simp only[Qf];repeat(refine s_ ?_;simp)
 refine Uu tOk rfl rfl T33 rfl rfl rfl (λb z1=>?_);simp;refine Qb rfl (λh=>?_) (λh=>?_)
 ·subst h;have:l=[]:=by
   cases l
   ·rfl
   have:=z1 (by simp);cases this
  subst this;repeat(refine s_ ?_;simp)
 repeat(refine s_ ?_;simp)
 refine apS T33 T78 ?_;simp;refine⟨⟨λy hy=>by obtain⟨b,_,rfl⟩:=xg.1 hy;exact⟨rfl,rfl⟩,by simp;omega⟩,?_⟩;repeat(refine s_ ?_;simp)
def Zm(l:List Int)(hb:l.length<=1000000):PC prog 86 [.list (l.map chA)] (λr=>r= .list (l.map chA)):=by
 refine pcB func86 results86 ntmps86 ?_;simp only[Qf];repeat(refine s_ ?_;simp)
 refine Uu tOk rfl rfl T33 rfl rfl rfl (λb z1=>?_);simp;refine Qb rfl (λh=>?_) (λh=>?_)
 ·subst h;have:l=[]:=by
   cases l
   ·rfl
   have:=z1 (by simp);cases this
  subst this;repeat(refine s_ ?_;simp)
 repeat(refine s_ ?_;simp)
 refine apS T33 T78 ?_;simp;refine⟨⟨λy hy=>by obtain⟨b,_,rfl⟩:=xg.1 hy;exact⟨rfl,rfl⟩,by simp;omega⟩,?_⟩;repeat(refine s_ ?_;simp)
 rw[zY (by simp)]
def Af(b:Bt)(Q:Nat):AV:= .agg [.i b.ep,.sl Q 3 0 b.chs.length]
def u1e(l:List Bt)(k b Q:Nat)(rows:List AV)(G:List AObj):Prop:=
 (l.length<=k->rows=l.map encBt)/\∀x,l[k]?=some x->rows=(l.map encBt).set k (Af x Q)/\b<=Q/\G[Q]?=some (.arr 78 3 (x.chs.map chA))
def Ob(s:Snk)(h1:s.com.length<=10000)(h2:s.pend.length<=1000)(h3:∀b∈s.pend,b.chs.length<=10000)(k:Nat)(H:List AObj):FC prog 52 [encSk s] H (λr H'=>HX H H'/\∃C P Q rows,r= .agg [.i s.ep,.sl C 3 0 s.com.length,.sl P 2 0 s.pend.length]/\H.length<=C/\H.length<=P/\C≠P/\H'[C]?=some (.arr 78 3 (s.com.map chA))/\H'[P]?=some (.va 134 2 rows)/\u1e s.pend k H.length Q rows H'/\(k<s.pend.length->Q≠P/\Q≠C)):=by
 refine fcB func52 results52 ntmps52 ?_;simp only[Qf];simp only[encSk];repeat(refine s_ ?_;simp)
 refine Wh tOk mixed [7] (.val 0 (.val 1 (.val 2 (.val 3 (.two 4 (.val 5 (.one 6 (.one 7 (.done)))) 6 (.one 4 (.val 5 (.one 7 (.done))))))))) rfl (by kernel_rfl) ?_;simp;refine⟨?_,?_⟩
 ·refine Tg rfl rfl (by simp) (P9 s.com (by omega)) rfl ?_;rintro _ rfl;simp;refine Qo (sl':=[(1,.vptr H.length 0),(2,.vptr (H.length+1) 0),(3,.vptr ((H.length+3)) 0)]) ?_ (by simp);refine Q1 λZ hZ=>?_;have z0:HX H Z:=by rw[hZ];exact(HX.refl H).app _
  have z1:Z[H.length]?=some (.vars [.i s.ep,.list (s.com.map chA),.list (s.pend.map encBt)]):=by rw[hZ,zF (by omega)];simp
  have z2:Z[H.length+1]?=some (.vars [.i 0,.nils,.nils]):=by rw[hZ,zF (by omega)];simp
  have zC:Z[(H.length+2)]?=some (.arr 78 3 (s.com.map chA)):=by rw[hZ,zF (by omega)];simp
  have zT:Z[(H.length+3)]?=some (.vars [.i s.ep,.sl ((H.length+2)) 3 0 s.com.length,.nils]):=by rw[hZ,zF (by omega)];simp
  have zl:Z.length=H.length+4:=by rw[hZ];simp
  clear hZ;refine Iw ((H.length+3)) 2 134 2 zT rfl ?_;simp only[v_,u0];have y0:=(z0.set (i:=(H.length+3)) (by omega) (.vars [.i s.ep,.sl ((H.length+2)) 3 0 s.com.length,.sl Z.length 2 0 0])).app [.arr 134 2 []];have y1:=Qc (Qa (j:=(H.length+3)) (by omega) z1 (.vars [.i s.ep,.sl ((H.length+2)) 3 0 s.com.length,.sl Z.length 2 0 0])) [.arr 134 2 []];have y2:=Qc (Qa (j:=(H.length+3)) (by omega) z2 (.vars [.i s.ep,.sl ((H.length+2)) 3 0 s.com.length,.sl Z.length 2 0 0])) [.arr 134 2 []];have yC:=Qc (Qa (j:=(H.length+3)) (by omega) zC (.vars [.i s.ep,.sl ((H.length+2)) 3 0 s.com.length,.sl Z.length 2 0 0])) [.arr 134 2 []];have yT:=Qc (Qe zT (.vars [.i s.ep,.sl ((H.length+2)) 3 0 s.com.length,.sl Z.length 2 0 0])) [.arr 134 2 []];have yP:(Z.set ((H.length+3)) (.vars [.i s.ep,.sl ((H.length+2)) 3 0 s.com.length,.sl Z.length 2 0 0])++[.arr 134 2 []])[Z.length]?=some (.arr 134 2 []):=by rw[zF (by simp)];simp
  generalize Z.set ((H.length+3)) (.vars [.i s.ep,.sl ((H.length+2)) 3 0 s.com.length,.sl Z.length 2 0 0])++[.arr 134 2 []]=Y at *;clear z0 z1 z2 zC zT;refine Hw Z.length yP ?_
  have x0:=y0.set (i:=Z.length) (by omega) (.va 134 2 []);have x1:=Qa (j:=Z.length) (by omega) y1 (.va 134 2 []);have x2:=Qa (j:=Z.length) (by omega) y2 (.va 134 2 []);have xC:=Qa (j:=Z.length) (by omega) yC (.va 134 2 []);have xT:=Qa (j:=Z.length) (by omega) yT (.va 134 2 []);have xP:=Qe yP (.va 134 2 []);generalize Y.set Z.length (.va 134 2 [])=X at *;clear y0 y1 y2 yC yT yP;clear Y
  repeat(refine s_ ?_;simp[x1])
  refine Qk (Qg (sl':=[(2,.vptr (H.length+1) 0),(3,.vptr ((H.length+3)) 0),(13,.list (s.pend.map encBt)),(14,.i s.pend.length),(15,.i (0:Nat))]) ?_ (by simp));refine Qp (P:=prog) (F:=λ(u:Nat×Nat×Nat×List AV×List AObj)=>⟨[(2,.vptr (H.length+1) 0),(3,.vptr ((H.length+3)) 0),(13,.list (s.pend.map encBt)),(14,.i s.pend.length),(15,.i u.1)],u.2.2.2.2⟩)
   (λu=>u.1<=s.pend.length/\HX H u.2.2.2.2/\u.2.2.2.2[H.length+1]?=some (.vars [.i 0,.nils,.nils])/\u.2.2.2.2[(H.length+2)]?=some (.arr 78 3 (s.com.map chA))/\u.2.2.2.2[(H.length+3)]?=some (.vars [.i s.ep,.sl ((H.length+2)) 3 0 s.com.length,.sl u.2.1 2 0 u.1])/\u.2.2.2.2[u.2.1]?=some (.va 134 2 u.2.2.2.1)/\H.length+4<=u.2.1/\u.2.2.2.1.length=u.1/\
    (u.1<=k->u.2.2.2.1=(s.pend.take u.1).map encBt)/\(k<u.1->∀x,s.pend[k]?=some x->u.2.2.2.1=((s.pend.take u.1).map encBt).set k (Af x u.2.2.1)/\H.length+4<=u.2.2.1/\u.2.2.1≠u.2.1/\u.2.2.2.2[u.2.2.1]?=some (.arr 78 3 (x.chs.map chA)))) (λu=>s.pend.length - u.1) ?_ (0,Z.length,0,[],X) ⟨yO _,x0,x2,xC,xT,xP,vh zl.symm,rfl,λ_=>rfl,λh=>by omega⟩
  clear x0 x1 x2 xC xT xP zl;clear X Z;rintro⟨j,P,Q,rows,G⟩ ⟨hj,g0,g2,gC,gT,gP,zm,za,g5,g6⟩ ih;simp only at hj g0 g2 gC gT gP zm za g5 g6 ih |-;repeat(refine s_ ?_;simp)
  refine Qb rfl (λzn=>?_) (λzo=>?_)
  ·have z8:j<s.pend.length:=by simpa using zn
   have hw:=wz j (by omega);have ha:s.pend[j]?=some s.pend[j]:=zG z8;have zr:=h3 _ (yB z8);have hg:(s.pend.map encBt)[j]?=some (encBt s.pend[j]):=by simp[z8]
   have hh:∀q,(s.pend.map encBt)[j]'q=encBt s.pend[j]:=λq=>by simp
   have zc:(s.pend.take (j+1)).map encBt=(s.pend.take j).map encBt++[encBt s.pend[j]]:=by rw[yI z8,xG];rfl
   have zp:((s.pend.take j).map encBt).length=j:=by simp;omega
   generalize s.pend[j]=b at *
   repeat(refine s_ ?_;simp[z8,hg,hh])
   have e0:=g0.app [AObj.vars [.i b.ep,.list (b.chs.map chA)]];have e2:=Qc g2 [AObj.vars [.i b.ep,.list (b.chs.map chA)]];have eC:=Qc gC [AObj.vars [.i b.ep,.list (b.chs.map chA)]];have eT:=Qc gT [AObj.vars [.i b.ep,.list (b.chs.map chA)]];have eP:=Qc gP [AObj.vars [.i b.ep,.list (b.chs.map chA)]];have e5:(G++[AObj.vars [.i b.ep,.list (b.chs.map chA)]])[G.length]?=some (.vars [.i b.ep,.list (b.chs.map chA)]):=by simp
   have e6:k<j->∀x,s.pend[k]?=some x->rows=((s.pend.take j).map encBt).set k (Af x Q)/\H.length+4<=Q/\Q≠P/\(G++[AObj.vars [.i b.ep,.list (b.chs.map chA)]])[Q]?=some (.arr 78 3 (x.chs.map chA)):=λh x hx=>by obtain⟨q1,q2,q3,q4⟩:=g6 h x hx;exact⟨q1,q2,q3,Qc q4 _⟩
   clear g0 g2 gC gT gP g6;generalize G++[AObj.vars [.i b.ep,.list (b.chs.map chA)]]=E at *
   have zd:=Ql eT;have zt:=Ql eP;have zb:P≠(H.length+3):=λe=>by rw[e,eT]at eP;simp at eP
   have zg:P≠(H.length+2):=λe=>by rw[e,eC]at eP;simp at eP
   have zh:E[(H.length+3)]= .vars [.i s.ep,.sl ((H.length+2)) 3 0 s.com.length,.sl P 2 0 j]:=(yR zd).2 eT;have zi:=λL=>Qc eP L;have gtT2:=eT;have zj:(H.length+3)<E.length+2:=by omega
   have zk:(H.length+3)<E.length+1:=by omega
   refine Wh tOk mixed [9,11] (.val 0 (.val 1 (.val 2 (.val 3 (.val 4 (.val 5 (.one 6 (.val 7 (.one 8 (.one 9 (.val 10 (.one 11 (.done))))))))))))) rfl (by kernel_rfl) ?_;simp[eT,e5];by_cases hjk:j=k
   ·refine Tg rfl rfl (by simp) (P9 b.chs (by omega)) rfl ?_;rintro _ rfl;simp[eT,e5];refine Wi tOk rfl rfl T34 rfl q1b rfl (by decide) (by decide) rfl rfl rfl ?_;simp[En,Uk,zi,za];refine⟨by simp[Em,za]<;>omega,?_⟩;simp[yH,zW,zd,zj,zk,zb,zh];refine Q1 λW hW=>?_;have w0:HX H W:=by rw[hW];exact(((e0.app _).set (by omega) _).set (by omega) _).app _
    have w2:W[H.length+1]?=some (.vars [.i 0,.nils,.nils]):=by rw[hW];exact Qc (Qa (by omega) (Qa (by omega) (Qc e2 _) _) _) _
    have wC:W[(H.length+2)]?=some (.arr 78 3 (s.com.map chA)):=by rw[hW];exact Qc (Qa (by omega) (Qa zg (Qc eC _) _) _) _
    have wT:W[(H.length+3)]?=some (.vars [.i s.ep,.sl ((H.length+2)) 3 0 s.com.length,.sl (E.length+2) 2 0 (j+1)]):=by rw[hW];exact Qc (Qe (Qa zb (Qc eT _) _) _) _
    have wP:W[E.length+2]?=some (.va 134 2 (rows++[Af b E.length])):=by rw[hW,zF (by simp)];simp[Af]
    have wQ:W[E.length]?=some (.arr 78 3 (b.chs.map chA)):=by rw[hW];refine Qc (Qa (by omega) (Qa (by omega) ?_ _) _) _;rw[zF (by omega)];simp
    clear hW;repeat(refine s_ ?_;simp[hw])
    refine Qg (sl':=[(2,.vptr (H.length+1) 0),(3,.vptr ((H.length+3)) 0),(13,.list (s.pend.map encBt)),(14,.i s.pend.length),(15,.i (j+1:Nat))]) ?_ (by simp);refine ih (j+1,E.length+2,E.length,rows++[Af b E.length],W) ⟨by simp only;omega,w0,w2,wC,wT,wP,by simp only;omega,by simp[za],λh=>by simp only at h;omega,λ_ x hx=>?_⟩ (by simp only;omega);rw[<-hjk,ha]at hx;obtain rfl:=Option.some.inj hx;refine⟨?_,by simp only;omega,by simp only;omega,wQ⟩;simp only;rw[zc,g5 (by omega),<-hjk,x_ _ _ (by omega),zp,uJ];rfl
   refine pcL (Zm b.chs (by omega)) ?_;simp[eT,e5];refine Wi tOk rfl rfl T34 rfl q1b rfl (by decide) (by decide) rfl rfl rfl ?_;simp[En,Uk,zi,za];refine⟨by simp[Em,za]<;>omega,?_⟩;simp[yH,zW,zd,zj,zk,zb,zh];refine Q1 λW hW=>?_;have w0:HX H W:=by rw[hW];exact(((e0.app _).set (by omega) _).set (by omega) _).app _
   have w2:W[H.length+1]?=some (.vars [.i 0,.nils,.nils]):=by rw[hW];exact Qc (Qa (by omega) (Qa (by omega) (Qc e2 _) _) _) _
   have wC:W[(H.length+2)]?=some (.arr 78 3 (s.com.map chA)):=by rw[hW];exact Qc (Qa (by omega) (Qa zg (Qc eC _) _) _) _
   have wT:W[(H.length+3)]?=some (.vars [.i s.ep,.sl ((H.length+2)) 3 0 s.com.length,.sl (E.length+1) 2 0 (j+1)]):=by rw[hW];exact Qc (Qe (Qa zb (Qc eT _) _) _) _
   have wP:W[E.length+1]?=some (.va 134 2 (rows++[encBt b])):=by rw[hW,zF (by simp)];simp
   have wQ:k<j->∀x,s.pend[k]?=some x->W[Q]?=some (.arr 78 3 (x.chs.map chA)):=λh x hx=>by obtain⟨q1,q2,q3,q4⟩:=e6 h x hx;rw[hW];exact Qc (Qa (λe=>by rw[<-e,gtT2]at q4;simp at q4) (Qa (λe=>q3 e.symm) (Qc q4 _) _) _) _
   have zq:k<j->∀x,s.pend[k]?=some x->Q<E.length:=λh x hx=>Ql (e6 h x hx).2.2.2;clear hW;repeat(refine s_ ?_;simp[hw])
   refine Qg (sl':=[(2,.vptr (H.length+1) 0),(3,.vptr ((H.length+3)) 0),(13,.list (s.pend.map encBt)),(14,.i s.pend.length),(15,.i (j+1:Nat))]) ?_ (by simp);refine ih (j+1,E.length+1,Q,rows++[encBt b],W) ⟨by simp only;omega,w0,w2,wC,wT,wP,by simp only;omega,by simp[za],λh=>?_,λh x hx=>?_⟩ (by simp only;omega)
   ·simp only at h |-;rw[zc,g5 (by omega)]
   simp only at h |-;have ze:k<j:=by omega
   obtain⟨q1,q2,q3,q4⟩:=e6 ze x hx;have zu:=zq ze x hx;refine⟨?_,q2,by omega,wQ ze x hx⟩;rw[zc,q1,vS _ _ (by omega)]
  have zf:j=s.pend.length:=by simp at zo;omega
  subst zf;have u1:=Qe g2 (.vars [.i s.ep,.sl ((H.length+2)) 3 0 s.com.length,.sl P 2 0 s.pend.length]);repeat(refine s_ ?_;simp[g2,gT,u1])
  simp only[yV]at g5 g6;refine⟨g0.set (by omega) _,_,_,⟨rfl,rfl⟩,by omega,by omega,by omega,Qa (by omega) gC _,Q,rows,Qa (by omega) gP _,⟨λh=>g5 h,λx hx=>?_⟩,λh=>?_⟩
  ·obtain⟨q1,q2,q3,q4⟩:=g6 (zD.1 hx).1 x hx;exact⟨q1,by omega,Qa (by omega) q4 _⟩
  obtain⟨q1,q2,q3,q4⟩:=g6 h _ (zG h);exact⟨q3,by omega⟩
 refine Tg rfl rfl (by simp) (P9 s.com (by omega)) rfl ?_;rintro _ rfl;simp;refine Qo (sl':=[(1,.vptr H.length 0),(2,.vptr (H.length+1) 0),(3,.vptr ((H.length+2)) 0)]) ?_ (by simp);refine Q1 λZ hZ=>?_;have z0:HX H Z:=by rw[hZ];exact(HX.refl H).app _
 have z1:Z[H.length]?=some (.vars [.i s.ep,.list (s.com.map chA),.list (s.pend.map encBt)]):=by rw[hZ,zF (by omega)];simp
 have z2:Z[H.length+1]?=some (.vars [.i 0,.nils,.nils]):=by rw[hZ,zF (by omega)];simp
 have zC:Z[(H.length+3)]?=some (.arr 78 3 (s.com.map chA)):=by rw[hZ,zF (by omega)];simp
 have zT:Z[(H.length+2)]?=some (.vars [.i s.ep,.sl ((H.length+3)) 3 0 s.com.length,.nils]):=by rw[hZ,zF (by omega)];simp
 have zl:Z.length=H.length+4:=by rw[hZ];simp
 clear hZ;refine Iw ((H.length+2)) 2 134 2 zT rfl ?_;simp only[v_,u0];have y0:=(z0.set (i:=(H.length+2)) (by omega) (.vars [.i s.ep,.sl ((H.length+3)) 3 0 s.com.length,.sl Z.length 2 0 0])).app [.arr 134 2 []];have y1:=Qc (Qa (j:=(H.length+2)) (by omega) z1 (.vars [.i s.ep,.sl ((H.length+3)) 3 0 s.com.length,.sl Z.length 2 0 0])) [.arr 134 2 []];have y2:=Qc (Qa (j:=(H.length+2)) (by omega) z2 (.vars [.i s.ep,.sl ((H.length+3)) 3 0 s.com.length,.sl Z.length 2 0 0])) [.arr 134 2 []];have yC:=Qc (Qa (j:=(H.length+2)) (by omega) zC (.vars [.i s.ep,.sl ((H.length+3)) 3 0 s.com.length,.sl Z.length 2 0 0])) [.arr 134 2 []];have yT:=Qc (Qe zT (.vars [.i s.ep,.sl ((H.length+3)) 3 0 s.com.length,.sl Z.length 2 0 0])) [.arr 134 2 []];have yP:(Z.set ((H.length+2)) (.vars [.i s.ep,.sl ((H.length+3)) 3 0 s.com.length,.sl Z.length 2 0 0])++[.arr 134 2 []])[Z.length]?=some (.arr 134 2 []):=by rw[zF (by simp)];simp
 generalize Z.set ((H.length+2)) (.vars [.i s.ep,.sl ((H.length+3)) 3 0 s.com.length,.sl Z.length 2 0 0])++[.arr 134 2 []]=Y at *;clear z0 z1 z2 zC zT;refine Hw Z.length yP ?_
 have x0:=y0.set (i:=Z.length) (by omega) (.va 134 2 []);have x1:=Qa (j:=Z.length) (by omega) y1 (.va 134 2 []);have x2:=Qa (j:=Z.length) (by omega) y2 (.va 134 2 []);have xC:=Qa (j:=Z.length) (by omega) yC (.va 134 2 []);have xT:=Qa (j:=Z.length) (by omega) yT (.va 134 2 []);have xP:=Qe yP (.va 134 2 []);generalize Y.set Z.length (.va 134 2 [])=X at *;clear y0 y1 y2 yC yT yP;clear Y
 repeat(refine s_ ?_;simp[x1])
 refine Qk (Qg (sl':=[(2,.vptr (H.length+1) 0),(3,.vptr ((H.length+2)) 0),(13,.list (s.pend.map encBt)),(14,.i s.pend.length),(15,.i (0:Nat))]) ?_ (by simp));refine Qp (P:=prog) (F:=λ(u:Nat×Nat×Nat×List AV×List AObj)=>⟨[(2,.vptr (H.length+1) 0),(3,.vptr ((H.length+2)) 0),(13,.list (s.pend.map encBt)),(14,.i s.pend.length),(15,.i u.1)],u.2.2.2.2⟩)
  (λu=>u.1<=s.pend.length/\HX H u.2.2.2.2/\u.2.2.2.2[H.length+1]?=some (.vars [.i 0,.nils,.nils])/\u.2.2.2.2[(H.length+3)]?=some (.arr 78 3 (s.com.map chA))/\u.2.2.2.2[(H.length+2)]?=some (.vars [.i s.ep,.sl ((H.length+3)) 3 0 s.com.length,.sl u.2.1 2 0 u.1])/\u.2.2.2.2[u.2.1]?=some (.va 134 2 u.2.2.2.1)/\H.length+4<=u.2.1/\u.2.2.2.1.length=u.1/\
   (u.1<=k->u.2.2.2.1=(s.pend.take u.1).map encBt)/\(k<u.1->∀x,s.pend[k]?=some x->u.2.2.2.1=((s.pend.take u.1).map encBt).set k (Af x u.2.2.1)/\H.length+4<=u.2.2.1/\u.2.2.1≠u.2.1/\u.2.2.2.2[u.2.2.1]?=some (.arr 78 3 (x.chs.map chA)))) (λu=>s.pend.length - u.1) ?_ (0,Z.length,0,[],X) ⟨yO _,x0,x2,xC,xT,xP,vh zl.symm,rfl,λ_=>rfl,λh=>by omega⟩
 clear x0 x1 x2 xC xT xP zl;clear X Z;rintro⟨j,P,Q,rows,G⟩ ⟨hj,g0,g2,gC,gT,gP,zm,za,g5,g6⟩ ih;simp only at hj g0 g2 gC gT gP zm za g5 g6 ih |-;repeat(refine s_ ?_;simp)
 refine Qb rfl (λzn=>?_) (λzo=>?_)
 ·have z8:j<s.pend.length:=by simpa using zn
  have hw:=wz j (by omega);have ha:s.pend[j]?=some s.pend[j]:=zG z8;have zr:=h3 _ (yB z8);have hg:(s.pend.map encBt)[j]?=some (encBt s.pend[j]):=by simp[z8]
  have hh:∀q,(s.pend.map encBt)[j]'q=encBt s.pend[j]:=λq=>by simp
  have zc:(s.pend.take (j+1)).map encBt=(s.pend.take j).map encBt++[encBt s.pend[j]]:=by rw[yI z8,xG];rfl
  have zp:((s.pend.take j).map encBt).length=j:=by simp;omega
  generalize s.pend[j]=b at *
  repeat(refine s_ ?_;simp[z8,hg,hh])
  have e0:=g0.app [AObj.vars [.i b.ep,.list (b.chs.map chA)]];have e2:=Qc g2 [AObj.vars [.i b.ep,.list (b.chs.map chA)]];have eC:=Qc gC [AObj.vars [.i b.ep,.list (b.chs.map chA)]];have eT:=Qc gT [AObj.vars [.i b.ep,.list (b.chs.map chA)]];have eP:=Qc gP [AObj.vars [.i b.ep,.list (b.chs.map chA)]];have e5:(G++[AObj.vars [.i b.ep,.list (b.chs.map chA)]])[G.length]?=some (.vars [.i b.ep,.list (b.chs.map chA)]):=by simp
  have e6:k<j->∀x,s.pend[k]?=some x->rows=((s.pend.take j).map encBt).set k (Af x Q)/\H.length+4<=Q/\Q≠P/\(G++[AObj.vars [.i b.ep,.list (b.chs.map chA)]])[Q]?=some (.arr 78 3 (x.chs.map chA)):=λh x hx=>by obtain⟨q1,q2,q3,q4⟩:=g6 h x hx;exact⟨q1,q2,q3,Qc q4 _⟩
  clear g0 g2 gC gT gP g6;generalize G++[AObj.vars [.i b.ep,.list (b.chs.map chA)]]=E at *
  have zd:=Ql eT;have zt:=Ql eP;have zb:P≠(H.length+2):=λe=>by rw[e,eT]at eP;simp at eP
  have zg:P≠(H.length+3):=λe=>by rw[e,eC]at eP;simp at eP
  have zh:E[(H.length+2)]= .vars [.i s.ep,.sl ((H.length+3)) 3 0 s.com.length,.sl P 2 0 j]:=(yR zd).2 eT;have zi:=λL=>Qc eP L;have gtT2:=eT;have zj:(H.length+2)<E.length+2:=by omega
  have zk:(H.length+2)<E.length+1:=by omega
  refine Wh tOk mixed [9,11] (.val 0 (.val 1 (.val 2 (.val 3 (.val 4 (.val 5 (.one 6 (.val 7 (.one 8 (.one 9 (.val 10 (.one 11 (.done))))))))))))) rfl (by kernel_rfl) ?_;simp[eT,e5];by_cases hjk:j=k
  ·refine Tg rfl rfl (by simp) (P9 b.chs (by omega)) rfl ?_;rintro _ rfl;simp[eT,e5];refine Wi tOk rfl rfl T34 rfl q1b rfl (by decide) (by decide) rfl rfl rfl ?_;simp[En,Uk,zi,za];refine⟨by simp[Em,za]<;>omega,?_⟩;simp[yH,zW,zd,zj,zk,zb,zh];refine Q1 λW hW=>?_;have w0:HX H W:=by rw[hW];exact(((e0.app _).set (by omega) _).set (by omega) _).app _
   have w2:W[H.length+1]?=some (.vars [.i 0,.nils,.nils]):=by rw[hW];exact Qc (Qa (by omega) (Qa (by omega) (Qc e2 _) _) _) _
   have wC:W[(H.length+3)]?=some (.arr 78 3 (s.com.map chA)):=by rw[hW];exact Qc (Qa (by omega) (Qa zg (Qc eC _) _) _) _
   have wT:W[(H.length+2)]?=some (.vars [.i s.ep,.sl ((H.length+3)) 3 0 s.com.length,.sl (E.length+2) 2 0 (j+1)]):=by rw[hW];exact Qc (Qe (Qa zb (Qc eT _) _) _) _
   have wP:W[E.length+2]?=some (.va 134 2 (rows++[Af b E.length])):=by rw[hW,zF (by simp)];simp[Af]
   have wQ:W[E.length]?=some (.arr 78 3 (b.chs.map chA)):=by rw[hW];refine Qc (Qa (by omega) (Qa (by omega) ?_ _) _) _;rw[zF (by omega)];simp
   clear hW;repeat(refine s_ ?_;simp[hw])
   refine Qg (sl':=[(2,.vptr (H.length+1) 0),(3,.vptr ((H.length+2)) 0),(13,.list (s.pend.map encBt)),(14,.i s.pend.length),(15,.i (j+1:Nat))]) ?_ (by simp);refine ih (j+1,E.length+2,E.length,rows++[Af b E.length],W) ⟨by simp only;omega,w0,w2,wC,wT,wP,by simp only;omega,by simp[za],λh=>by simp only at h;omega,λ_ x hx=>?_⟩ (by simp only;omega);rw[<-hjk,ha]at hx;obtain rfl:=Option.some.inj hx;refine⟨?_,by simp only;omega,by simp only;omega,wQ⟩;simp only;rw[zc,g5 (by omega),<-hjk,x_ _ _ (by omega),zp,uJ];rfl
  refine pcL (Zm b.chs (by omega)) ?_;simp[eT,e5];refine Wi tOk rfl rfl T34 rfl q1b rfl (by decide) (by decide) rfl rfl rfl ?_;simp[En,Uk,zi,za];refine⟨by simp[Em,za]<;>omega,?_⟩;simp[yH,zW,zd,zj,zk,zb,zh];refine Q1 λW hW=>?_;have w0:HX H W:=by rw[hW];exact(((e0.app _).set (by omega) _).set (by omega) _).app _
  have w2:W[H.length+1]?=some (.vars [.i 0,.nils,.nils]):=by rw[hW];exact Qc (Qa (by omega) (Qa (by omega) (Qc e2 _) _) _) _
  have wC:W[(H.length+3)]?=some (.arr 78 3 (s.com.map chA)):=by rw[hW];exact Qc (Qa (by omega) (Qa zg (Qc eC _) _) _) _
  have wT:W[(H.length+2)]?=some (.vars [.i s.ep,.sl ((H.length+3)) 3 0 s.com.length,.sl (E.length+1) 2 0 (j+1)]):=by rw[hW];exact Qc (Qe (Qa zb (Qc eT _) _) _) _
  have wP:W[E.length+1]?=some (.va 134 2 (rows++[encBt b])):=by rw[hW,zF (by simp)];simp
  have wQ:k<j->∀x,s.pend[k]?=some x->W[Q]?=some (.arr 78 3 (x.chs.map chA)):=λh x hx=>by obtain⟨q1,q2,q3,q4⟩:=e6 h x hx;rw[hW];exact Qc (Qa (λe=>by rw[<-e,gtT2]at q4;simp at q4) (Qa (λe=>q3 e.symm) (Qc q4 _) _) _) _
  have zq:k<j->∀x,s.pend[k]?=some x->Q<E.length:=λh x hx=>Ql (e6 h x hx).2.2.2;clear hW;repeat(refine s_ ?_;simp[hw])
  refine Qg (sl':=[(2,.vptr (H.length+1) 0),(3,.vptr ((H.length+2)) 0),(13,.list (s.pend.map encBt)),(14,.i s.pend.length),(15,.i (j+1:Nat))]) ?_ (by simp);refine ih (j+1,E.length+1,Q,rows++[encBt b],W) ⟨by simp only;omega,w0,w2,wC,wT,wP,by simp only;omega,by simp[za],λh=>?_,λh x hx=>?_⟩ (by simp only;omega)
  ·simp only at h |-;rw[zc,g5 (by omega)]
  simp only at h |-;have ze:k<j:=by omega
  obtain⟨q1,q2,q3,q4⟩:=e6 ze x hx;have zu:=zq ze x hx;refine⟨?_,q2,by omega,wQ ze x hx⟩;rw[zc,q1,vS _ _ (by omega)]
 have zf:j=s.pend.length:=by simp at zo;omega
 subst zf;have u1:=Qe g2 (.vars [.i s.ep,.sl ((H.length+3)) 3 0 s.com.length,.sl P 2 0 s.pend.length]);repeat(refine s_ ?_;simp[g2,gT,u1])
 simp only[yV]at g5 g6;refine⟨g0.set (by omega) _,_,_,⟨rfl,rfl⟩,by omega,by omega,by omega,Qa (by omega) gC _,Q,rows,Qa (by omega) gP _,⟨λh=>g5 h,λx hx=>?_⟩,λh=>?_⟩
 ·obtain⟨q1,q2,q3,q4⟩:=g6 (zD.1 hx).1 x hx;exact⟨q1,by omega,Qa (by omega) q4 _⟩
 obtain⟨q1,q2,q3,q4⟩:=g6 h _ (zG h);exact⟨q3,by omega⟩
end
section
open Go.Proofs
def f0j(i q:Nat)(xs:List AV)(b:Bt):(encBt b).fz i q xs=encBt b:=by simp[encBt,Si]
def u05(i q:Nat)(xs:List AV)(l:List Bt):(l.map encBt).map (AV.fz i q xs)=l.map encBt:=by rw[uF];exact vW λa _=>f0j i q xs a
def Ao(l:List Bt):(l.map encBt).all (λx=>x.cells.all AV.pure)=true:=by rw[zV];intro x hx;obtain⟨a,_,rfl⟩:=xg.1 hx;simp[encBt]
section
variable {P0:Program} [Env P0]
def S8 {nt k0:Nat} {cd:Code} {Q0:Exit->AS->Prop} {sl:List (Nat×AV)} {Z:List AObj} (z8:∀i q xs,sl.map (λp=>(p.1,AV.fz i q xs p.2))=sl) (S Q t:Nat) (b:Bt) (l:List Bt) (e0:Int) (cm:AV) (zb:∀i xs,cm.fz i 2 xs=cm) (n:Nat) (hn:n=(l++[b]).length)
  (hS:Z[S]?=some (.va 134 2 (l.map encBt++[Af b Q]))) (hQ:Z[Q]?=some (.arr 78 3 (b.chs.map chA))) (ht:Z[t]?=some (.vars [.i e0,cm,.sl S 2 0 n]))
  (h:∀Z',Z'[t]?=some (.vars [.i e0,cm,.list ((l++[b]).map encBt)])->(∀j o,Z[j]?=some o->j≠Q->j≠S->j≠t->Z'[j]?=some o)->AWP P0 nt k0 cd Q0 ⟨sl,Z'⟩):AWP P0 nt k0 cd Q0 ⟨sl,Z⟩:=by
 have za:S≠Q:=λe=>by subst e;rw[hS]at hQ;simp at hQ
 have z1:t≠S:=λe=>by subst e;rw[hS]at ht;simp at ht
 have zc:t≠Q:=λe=>by subst e;rw[hQ]at ht;simp at ht
 have r1:(l.map encBt++[Af b Q]).map (AV.fz Q 3 (b.chs.map chA))=(l++[b]).map encBt:=by
  have e:(Af b Q).fz Q 3 (b.chs.map chA)=encBt b:=by rw[Af,Si];simp only[z_,yM,Tv,Od];rw[if_pos ⟨trivial,trivial,by simp⟩,xB,zY (by simp)];try simp
  rw[xG,z_,yM,u05,e,xG,z_,yM]
 refine Ov Q hQ S hS za rfl ?_;rw[z8,AObj.fz,r1];have s1:((Z.set Q .dead).set S (.va 134 2 ((l++[b]).map encBt)))[S]? =_:=Qe (Qa za.symm hS _) _;have s2:=Qa (j:=S) z1.symm (Qa (j:=Q) zc.symm ht .dead) (.va 134 2 ((l++[b]).map encBt));refine Il S s1 (Ao _) ?_;have u1:=Qe s1 (.arr 134 2 ((l++[b]).map encBt));have u2:=Qa (j:=S) z1.symm s2 (.arr 134 2 ((l++[b]).map encBt));refine Ey S u1 t u2 ?_;rw[z8];refine h _ ?_ λj o hj h1 h3 h4=>?_
 ·rw[Qe (Qa (j:=S) z1.symm u2 .dead)];simp only[z_,yM,Tv,Od,zb];rw[if_pos ⟨trivial,trivial,by simp[hn]⟩,hn,xB,zY (by simp)]
 refine Qa h4.symm (Qa h3.symm (Qa h3.symm (Qa h3.symm (Qa h1.symm hj _) _) _) _) _
end
def f0a(H:List AObj)(P V:Nat)(rows:List AV)(x:AV)(hx:x.cells.length=2/\x.cells.all AV.leaf=true)(hP:H[P]?=some (.va 134 2 rows))(hV:H[V]?=some (.arr 134 2 [x]))(hl:rows.length<=1000)(n:Nat)(hn:n=rows.length):
  FC prog 78 [.sl P 2 0 n,.i n,.sl V 2 0 1] H (λr H'=>r= .sl H.length 2 0 (n+1)/\H'=H.set P .dead++[.va 134 2 (rows++[x])]):=by
 subst hn;refine fcB func78 results78 ntmps78 ?_;simp only[Qf];repeat(refine s_ ?_;simp)
 refine Qh rfl ?_;simp;repeat(refine s_ ?_;simp)
 refine Qb rfl (λ_=>?_) (λh=>by simp at h);repeat(refine s_ ?_;simp)
 refine Wi tOk rfl rfl T34 rfl q1b rfl (by decide) (by decide) rfl rfl rfl ?_;simp[En,Uk,hP,hV];refine⟨⟨λy hy=>by rw[xd.1 hy];exact hx,by simp;omega⟩,?_⟩;repeat(refine s_ ?_;simp)
def O9(l:List Bt)(hl:l.length<=1000000)(z1:l.Pairwise λa b=>a.ep<b.ep)(n:Int)(P:Nat)(rows:List AV)(H:List AObj)(hP:H[P]?=some (.va 134 2 rows))(hr:∀(i:Nat) (b:Bt),l[i]?=some b->∃y:AV,rows[i]?=some (AV.agg [.i b.ep,y])/\((∃l,y= .list l)\/∃q m,y= .sl q 3 0 m)):
  FC prog 53 [.sl P 2 0 l.length,.i n] H (λr H'=>r= .tup [.i (lbE l n),.bool (okE l n (lbE l n))]/\HX H H'):=by
 refine fcB func53 results53 ntmps53 ?_;simp only[Qf];repeat(refine s_ ?_;simp)
 refine Qd rfl rfl (k0u l hl z1 n P rows H hP hr) rfl ?_;rintro r H' ⟨rfl,hx⟩;simp;repeat(refine s_ ?_;simp)
 exact hx
def Da{l:List Bt}{k Q:Nat}{rows:List AV}(h1:l.length<=k->rows=l.map encBt)(h2:∀x,l[k]?=some x->rows=(l.map encBt).set k (Af x Q)):∀(i:Nat) (b:Bt),l[i]?=some b->∃y:AV,rows[i]?=some (AV.agg [.i b.ep,y])/\((∃l,y= .list l)\/∃q m,y= .sl q 3 0 m):=λi b hb=>by
 by_cases hk:l.length<=k
 ·exact⟨_,by rw[h1 hk,zU,hb];rfl,.inl ⟨_,rfl⟩⟩
 have e:=h2 _ (zG (by omega:k<l.length));rw[e];by_cases hik:k=i
 ·subst hik;have hl:=(zD.1 hb).1;rw[zG hl]at hb;rw[Option.some.inj hb];exact⟨_,by rw[zJ (by simpa using hl)];rfl,.inr ⟨_,_,rfl⟩⟩
 exact⟨_,by rw[zI hik,zU,hb];rfl,.inl ⟨_,rfl⟩⟩
end
section
open Go.Proofs
def x02{s:Snk}(h:WfS s)(e x:Int)(he:s.ep<e)(zw:e<=1099511627776)(zm:∀b∈s.pend,b.ep<e)(hl:s.pend.length<256)(zx:Y2 s<4096):PC prog 44 [encSk s,.i e,.list [chA x]] (λr=>r= .tup [encSk ⟨s.ep,s.com,s.pend++[⟨e,[x]⟩]⟩,.i 0]):=by
 refine pcB func44 results44 ntmps44 ?_;simp only[Qf];obtain⟨f1,f2⟩:=h.few;have cC:=Pz h;have cF:=Ik [x] (by simp);have zg:=λH=>Ob s (by omega) (by have:=h.len;omega) (λb hb=>by have:=f2 b hb;omega) (s.pend.length) H;have q1:¬e<=s.ep:=by omega
 have q2:¬1099511627776<e:=by omega
 have hlen:=h.len;simp only[encSk,z_,yM]at cC cF zg |-;repeat(refine s_ ?_;simp)
 refine pcL (cC) ?_;simp;repeat(refine s_ ?_;simp)
 refine Qh rfl ?_;simp;repeat(refine s_ ?_;simp[q1,q2])
 refine Qh rfl ?_;simp;repeat(refine s_ ?_;simp)
 refine pcL (cF) ?_;simp;repeat(refine s_ ?_;simp)
 refine Qh rfl ?_;simp;repeat(refine s_ ?_;simp)
 refine Qd rfl rfl (zg _) rfl ?_;rintro r Y ⟨hx,C,P,Q,rows,rfl,hC,hP,zn,yC,yP,⟨zh,zf⟩,hQ⟩;have y1:=hx 1 _ rfl;have zy:2<=C:=by simpa using hC
 have zz:2<=P:=by simpa using hP
 have y0:=Ql yC;have y5:=Ql yP;have zo:∀b,s.pend[s.pend.length]?=some b->2<=Q/\Q<Y.length:=λb hb=>⟨by simpa using(zf b hb).2.1,Ql (zf b hb).2.2⟩
 clear hx hC hP;simp;repeat(refine s_ ?_;simp)
 refine Qo (sl':=[(1,.i e),(2,.list [chA x]),(6,.vptr 1 0),(10,.vptr Y.length 0),(38,.bool false)]) ?_ (by simp);refine Ey C (Qc yC _) Y.length (cs:=[.i s.ep,.sl C 3 0 s.com.length,.sl P 2 0 s.pend.length]) (by simp) ?_;have zp:(wO (λy=>AV.fz C 3 (s.com.map chA) y) [.i s.ep,.sl C 3 0 s.com.length,.sl P 2 0 s.pend.length])=[.i s.ep,.list (s.com.map chA),.sl P 2 0 s.pend.length]:=by simp only[z_,yM,Tv,Od];rw[if_pos ⟨trivial,trivial,by simp⟩,if_neg (λh=>zn h.1.symm),xB,zY (by simp)]
 rw[zp];simp only[z_,yM,Tv,Yf,Uv,Cb];refine Q1 λE hE=>?_;have e1:E[1]?=some (.vars [.i 0,.nils,.nils]):=by rw[hE];exact Qa (by omega) (Qa (by omega) (Qc y1 _) _) _
 have eP:E[P]?=some (.va 134 2 rows):=by rw[hE];exact Qa (by omega) (Qa (by omega) (Qc yP _) _) _
 have eT:E[Y.length]?=some (.vars [.i s.ep,.list (s.com.map chA),.sl P 2 0 s.pend.length]):=by rw[hE];exact Qe (Qa (by omega) (show(Y++[_])[Y.length]? =_ by simp;rfl) _) _
 have eQ:∀b,s.pend[s.pend.length]?=some b->E[Q]?=some (.arr 78 3 (b.chs.map chA)):=λb hb=>by have hk:=(zD.1 hb).1;rw[hE];exact Qa (by have:=(zo b hb).2;omega) (Qa (λe=>(hQ hk).2 e.symm) (Qc (zf b hb).2.2 _) _) _
 clear hE;have zi:=Da zh (λb hb=>(zf b hb).1);refine Qh rfl ?_;simp;repeat(refine s_ ?_;simp[eT])
 refine Qd rfl rfl (O9 s.pend (by omega) h.asc e P rows E eP zi) rfl ?_;rintro r Z ⟨rfl,hz⟩;have z1:=hz _ _ e1;have zP:=hz _ _ eP;have zT:=hz _ _ eT;have zQ:=λb hb=>hz _ _ (eQ b hb);clear e1 eP eT eQ hz y1 yC yP zi;simp;repeat(refine s_ ?_;simp)
 have zq:lbE s.pend e=s.pend.length:=c00 zm;have zr:okE s.pend e s.pend.length=false:=by rw[okE,wb (zR _)]
 rw[zq,zr];have z8:=zh (zR _);subst z8;have gP:=Qc zP [AObj.arr 134 2 [.agg [.i e,.nils]]];have gV:(Z++[AObj.arr 134 2 [.agg [.i e,.nils]]])[Z.length]?=some (.arr 134 2 [.agg [.i e,.nils]]):=by simp
 have zj:=Ql zT;have zt:Z[Y.length]= .vars [.i s.ep,.list (s.com.map chA),.sl P 2 0 s.pend.length]:=(yR zj).2 zT;have zk:P≠Y.length:=by omega
 have zu:Y.length<Z.length+1:=by omega
 refine Qh rfl ?_;simp;repeat(refine s_ ?_;simp[zT])
 refine Qd rfl rfl (f0a _ P Z.length _ _ (by simp[AV.cells,AV.leaf]) gP gV (by simp;omega) s.pend.length (by simp)) rfl ?_;rintro r H' ⟨rfl,rfl⟩;simp[yH,zW,zj,zk,zt,zu];repeat(refine s_ ?_;simp)
 refine Qo (sl':=[(2,.list [chA x]),(6,.vptr 1 0),(10,.vptr Y.length 0),(11,.i s.pend.length)]) ?_ (by simp);refine Q1 λW hW=>?_;have w1:W[1]?=some (.vars [.i 0,.nils,.nils]):=by rw[hW];exact Qc (Qa (by omega) (Qa (by omega) (Qc z1 _) _) _) _
 have wT:W[Y.length]?=some (.vars [.i s.ep,.list (s.com.map chA),.sl (Z.length+1) 2 0 (s.pend.length+1)]):=by rw[hW];exact Qc (Qe (Qa zk (Qc zT _) _) _) _
 have wN:W[Z.length+1]?=some (.va 134 2 (s.pend.map encBt++[.agg [.i e,.nils]])):=by rw[hW,zF (by simp)];simp
 have y6:=Ql wN;clear hW gP gV zP zT z1;have rg:(s.pend.map encBt++[AV.agg [.i e,.nils]])[s.pend.length]?=some (.agg [.i e,.nils]):=by rw[zF (by simp)];simp
 have rh:∀q,(s.pend.map encBt++[AV.agg [.i e,.nils]])[s.pend.length]'q= .agg [.i e,.nils]:=λq=>(yR q).2 rg;have zb:∀y,(s.pend.map encBt++[AV.agg [.i e,.nils]]).set s.pend.length y=s.pend.map encBt++[y]:=λy=>by rw[x_ _ _ (by simp)];simp
 obtain⟨rows,z8⟩:∃rows,s.pend.map encBt++[AV.agg [.i e,.nils]]=rows:=⟨_,rfl⟩
 rw[z8]at wN rg rh zb;have rl:s.pend.length<rows.length:=(zD.1 rg).1;have gN:=λL=>Qc wN L;have gT:=λL=>Qc wT L;have za:Y2 ⟨s.ep,s.com,s.pend++[⟨e,[x]⟩]⟩=Y2 s+1:=by simp[Y2];omega
 have zl:∀b∈s.pend++[⟨e,[x]⟩],b.chs.length<=4097:=λb hb=>by
  rcases xu.1 hb with hb|hb
  ·have:=f2 b hb;omega
  rw[xd.1 hb];simp
 have zc:(s.pend.length:Int)<(s.pend.length:Int)+1:=by omega
 have zd:s.pend.length<s.pend.length+1:=by omega
 refine Wh tOk mixed [10,13] (.val 0 (.val 2 (.val 3 (.val 4 (.val 5 (.val 6 (.val 7 (.val 8 (.val 9 (.two 1 (.one 10 (.val 11 (.val 12 (.one 13 (.done))))) 10 (.val 1 (.val 11 (.val 12 (.one 13 (.done))))))))))))))) rfl (by kernel_rfl) ?_;simp[wT,wN,rg,rh,rl,zc,zd];refine⟨?_,?_⟩
 ·refine apS T33 T78 ?_;simp[gN,gT,rg,rh,rl,zb,zc,zd];refine⟨by simp[Em,chA],?_⟩;try simp[gN,gT,rg,rh,rl,zb,zc,zd]
  refine Qo (sl':=[(6,.vptr 1 0),(10,.vptr Y.length 0)]) ?_ (by simp);refine Q1 λV hV=>?_;have v1:V[1]?=some (.vars [.i 0,.nils,.nils]):=by rw[hV];exact Qa (by omega) (Qc w1 _) _
  have vT:V[Y.length]?=some (.vars [.i s.ep,.list (s.com.map chA),.sl (Z.length+1) 2 0 (s.pend.length+1)]):=by rw[hV];exact Qa (by omega) (Qc wT _) _
  have vN:V[Z.length+1]?=some (.va 134 2 (s.pend.map encBt++[Af (⟨e,[x]⟩:Bt) (W.length)])):=by rw[hV];exact Qe (Qc wN _) _
  have vQ:V[W.length]?=some (.arr 78 3 ((⟨e,[x]⟩:Bt).chs.map chA)):=by rw[hV];exact Qa (by omega) (by simp) _
  clear hV;have cSz:=P5 ⟨s.ep,s.com,s.pend++[(⟨e,[x]⟩:Bt)]⟩ (by simp only;omega) (by simp;omega) (λb hb=>by have:=zl b hb;omega) (by rw[za];omega);rw[za]at cSz;simp only[encSk]at cSz;refine S8 (by simp) (Z.length+1) (W.length) Y.length (⟨e,[x]⟩:Bt) s.pend s.ep (.list (s.com.map chA)) (by simp[Yf]) (s.pend.length+1) (by simp) vN vQ vT λZ' x1 x2=>?_;have x3:=x2 1 _ v1 (by omega) (by omega) (by omega);have x4:=Qe x3 (.vars [.i s.ep,.list (s.com.map chA),.list ((s.pend++[(⟨e,[x]⟩:Bt)]).map encBt)]);have zv:(s.pend++[(⟨e,[x]⟩:Bt)]).length<=256:=by simp;omega
  have ze:(s.pend++[(⟨e,[x]⟩:Bt)]).map encBt=s.pend.map encBt++[encBt (⟨e,[x]⟩:Bt)]:=by simp
  generalize (s.pend++[(⟨e,[x]⟩:Bt)])=LL at *
  have r1:¬(256:Int)<LL.length:=by omega
  repeat(refine s_ ?_;simp[x1,r1])
  refine Qh rfl ?_;simp;repeat(refine s_ ?_;simp[x1])
  refine pcL (cSz) ?_;simp;repeat(refine s_ ?_;simp)
  refine Qb rfl (λh=>absurd (of_decide_eq_true h) (by omega)) (λ_=>?_);repeat(refine s_ ?_;simp[x1,x3,x4])
  first|exact ze|(rw[ze];simp)
 refine apS T33 T78 ?_;simp[gN,gT,rg,rh,rl,zb,zc,zd];refine⟨by simp[Em,chA],?_⟩;try simp[gN,gT,rg,rh,rl,zb,zc,zd]
 refine Qo (sl':=[(6,.vptr 1 0),(10,.vptr Y.length 0)]) ?_ (by simp);refine Q1 λV hV=>?_;have v1:V[1]?=some (.vars [.i 0,.nils,.nils]):=by rw[hV];exact Qa (by omega) (Qc w1 _) _
 have vT:V[Y.length]?=some (.vars [.i s.ep,.list (s.com.map chA),.sl (Z.length+1) 2 0 (s.pend.length+1)]):=by rw[hV];exact Qa (by omega) (Qc wT _) _
 have vN:V[Z.length+1]?=some (.va 134 2 (s.pend.map encBt++[Af (⟨e,[x]⟩:Bt) (W.length)])):=by rw[hV];exact Qe (Qc wN _) _
 have vQ:V[W.length]?=some (.arr 78 3 ((⟨e,[x]⟩:Bt).chs.map chA)):=by rw[hV];exact Qa (by omega) (by simp) _
 clear hV;have cSz:=P5 ⟨s.ep,s.com,s.pend++[(⟨e,[x]⟩:Bt)]⟩ (by simp only;omega) (by simp;omega) (λb hb=>by have:=zl b hb;omega) (by rw[za];omega);rw[za]at cSz;simp only[encSk]at cSz;refine S8 (by simp) (Z.length+1) (W.length) Y.length (⟨e,[x]⟩:Bt) s.pend s.ep (.list (s.com.map chA)) (by simp[Yf]) (s.pend.length+1) (by simp) vN vQ vT λZ' x1 x2=>?_;have x3:=x2 1 _ v1 (by omega) (by omega) (by omega);have x4:=Qe x3 (.vars [.i s.ep,.list (s.com.map chA),.list ((s.pend++[(⟨e,[x]⟩:Bt)]).map encBt)]);have zv:(s.pend++[(⟨e,[x]⟩:Bt)]).length<=256:=by simp;omega
 have ze:(s.pend++[(⟨e,[x]⟩:Bt)]).map encBt=s.pend.map encBt++[encBt (⟨e,[x]⟩:Bt)]:=by simp
 generalize (s.pend++[(⟨e,[x]⟩:Bt)])=LL at *
 have r1:¬(256:Int)<LL.length:=by omega
 repeat(refine s_ ?_;simp[x1,r1])
 refine Qh rfl ?_;simp;repeat(refine s_ ?_;simp[x1])
 refine pcL (cSz) ?_;simp;repeat(refine s_ ?_;simp)
 refine Qb rfl (λh=>absurd (of_decide_eq_true h) (by omega)) (λ_=>?_);repeat(refine s_ ?_;simp[x1,x3,x4])
 first|exact ze|(rw[ze];simp)
def c0e{s:Snk}(h:WfS s)(e x:Int)(he:s.ep<e)(zw:e<=1099511627776)(l:List Bt)(ch:List Int)(hp:s.pend=l++[⟨e,ch⟩])(hl:s.pend.length<256)(zx:Y2 s<4096):PC prog 44 [encSk s,.i e,.list [chA x]] (λr=>r= .tup [encSk ⟨s.ep,s.com,l++[⟨e,ch++[x]⟩]⟩,.i 0]):=by
 refine pcB func44 results44 ntmps44 ?_;simp only[Qf];obtain⟨f1,f2⟩:=h.few;have cC:=Pz h;have cF:=Ik [x] (by simp);have zi:=λH=>Ob s (by omega) (by have:=h.len;omega) (λb hb=>by have:=f2 b hb;omega) (l.length) H;have q1:¬e<=s.ep:=by omega
 have q2:¬1099511627776<e:=by omega
 have hlen:=h.len;simp only[encSk,z_,yM]at cC cF zi |-;repeat(refine s_ ?_;simp)
 refine pcL (cC) ?_;simp;repeat(refine s_ ?_;simp)
 refine Qh rfl ?_;simp;repeat(refine s_ ?_;simp[q1,q2])
 refine Qh rfl ?_;simp;repeat(refine s_ ?_;simp)
 refine pcL (cF) ?_;simp;repeat(refine s_ ?_;simp)
 refine Qh rfl ?_;simp;repeat(refine s_ ?_;simp)
 refine Qd rfl rfl (zi _) rfl ?_;rintro r Y ⟨hx,C,P,Q,rows,rfl,hC,hP,zn,yC,yP,⟨zo,zb⟩,hQ⟩;have y1:=hx 1 _ rfl;have zy:2<=C:=by simpa using hC
 have zz:2<=P:=by simpa using hP
 have y0:=Ql yC;have y5:=Ql yP;have zj:∀b,s.pend[l.length]?=some b->2<=Q/\Q<Y.length:=λb hb=>⟨by simpa using(zb b hb).2.1,Ql (zb b hb).2.2⟩
 clear hx hC hP;simp;repeat(refine s_ ?_;simp)
 refine Qo (sl':=[(1,.i e),(2,.list [chA x]),(6,.vptr 1 0),(10,.vptr Y.length 0),(38,.bool false)]) ?_ (by simp);refine Ey C (Qc yC _) Y.length (cs:=[.i s.ep,.sl C 3 0 s.com.length,.sl P 2 0 s.pend.length]) (by simp) ?_;have zp:(wO (λy=>AV.fz C 3 (s.com.map chA) y) [.i s.ep,.sl C 3 0 s.com.length,.sl P 2 0 s.pend.length])=[.i s.ep,.list (s.com.map chA),.sl P 2 0 s.pend.length]:=by simp only[z_,yM,Tv,Od];rw[if_pos ⟨trivial,trivial,by simp⟩,if_neg (λh=>zn h.1.symm),xB,zY (by simp)]
 rw[zp];simp only[z_,yM,Tv,Yf,Uv,Cb];refine Q1 λE hE=>?_;have e1:E[1]?=some (.vars [.i 0,.nils,.nils]):=by rw[hE];exact Qa (by omega) (Qa (by omega) (Qc y1 _) _) _
 have eP:E[P]?=some (.va 134 2 rows):=by rw[hE];exact Qa (by omega) (Qa (by omega) (Qc yP _) _) _
 have eT:E[Y.length]?=some (.vars [.i s.ep,.list (s.com.map chA),.sl P 2 0 s.pend.length]):=by rw[hE];exact Qe (Qa (by omega) (show(Y++[_])[Y.length]? =_ by simp;rfl) _) _
 have eQ:∀b,s.pend[l.length]?=some b->E[Q]?=some (.arr 78 3 (b.chs.map chA)):=λb hb=>by have hk:=(zD.1 hb).1;rw[hE];exact Qa (by have:=(zj b hb).2;omega) (Qa (λe=>(hQ hk).2 e.symm) (Qc (zb b hb).2.2 _) _) _
 clear hE;have zk:=Da zo (λb hb=>(zb b hb).1);refine Qh rfl ?_;simp;repeat(refine s_ ?_;simp[eT])
 refine Qd rfl rfl (O9 s.pend (by omega) h.asc e P rows E eP zk) rfl ?_;rintro r Z ⟨rfl,hz⟩;have z1:=hz _ _ e1;have zP:=hz _ _ eP;have zT:=hz _ _ eT;have zQ:=λb hb=>hz _ _ (eQ b hb);clear e1 eP eT eQ hz y1 yC yP zk;simp;repeat(refine s_ ?_;simp)
 have zl:s.pend.length=l.length+1:=by rw[hp];simp
 have hb:s.pend[l.length]?=some ⟨e,ch⟩:=by rw[hp,zF (zR _)];simp
 have zq:∀b∈l,b.ep<e:=λb hb=>by have:=h.asc;rw[hp,List.pairwise_append]at this;exact this.2.2 b hb ⟨e,ch⟩ (by simp)
 have zr:lbE s.pend e=l.length:=by
  refine(Vn s.pend e l.length (by omega) (λk hk zg=>?_) (λk hk zg=>?_)).symm
  ·have:s.pend[k]=l[k]:=by simp only[hp];rw[List.getElem_append_left zg]
   rw[this];exact zq _ (yB zg)
  have zt:k=l.length:=by omega
  subst zt;have:s.pend[l.length]=⟨e,ch⟩:=(yR hk).2 hb;rw[this];exact wI _
 have zu:okE s.pend e l.length=true:=by rw[okE,hb];simp
 rw[zr,zu];have z8:rows=l.map encBt++[Af ⟨e,ch⟩ Q]:=by rw[(zb _ hb).1,hp,xG,x_ _ _ (by simp)];simp
 have y6:ch.length<=4096:=f2 ⟨e,ch⟩ (by rw[hp];simp);have zQ:=zQ _ hb;have y7:=zj _ hb;have zh:=(hQ (by omega)).1;rw[zl]at zT;subst z8;have rg:(l.map encBt++[Af ⟨e,ch⟩ Q])[l.length]?=some (.agg [.i e,.sl Q 3 0 ch.length]):=by rw[zF (by simp)];simp[Af]
 have rh:∀q,(l.map encBt++[Af ⟨e,ch⟩ Q])[l.length]'q= .agg [.i e,.sl Q 3 0 ch.length]:=λq=>(yR q).2 rg;have zc:∀y,(l.map encBt++[Af ⟨e,ch⟩ Q]).set l.length y=l.map encBt++[y]:=λy=>by rw[x_ _ _ (by simp)];simp
 obtain⟨rows,z8⟩:∃rows,l.map encBt++[Af ⟨e,ch⟩ Q]=rows:=⟨_,rfl⟩
 rw[z8]at zP rg rh zc;have rl:l.length<rows.length:=(zD.1 rg).1;have y8:=Ql zT;have gN:=λL=>Qc (Qa (i:=P) (j:=Q) zh zP .dead) L;have gT:=λL=>Qc (Qa (i:=Y.length) (j:=Q) (by omega) zT .dead) L;have za:Y2 ⟨s.ep,s.com,l++[⟨e,ch++[x]⟩]⟩=Y2 s+1:=by rw[Y2,Y2,hp];simp;omega
 have zm:∀b∈l++[⟨e,ch++[x]⟩],b.chs.length<=4097:=λb hb=>by
  rcases xu.1 hb with hb|hb
  ·have:=f2 b (by rw[hp];exact List.mem_append_left _ hb);omega
  rw[xd.1 hb];simp;omega
 have zd:(l.length:Int)<(l.length:Int)+1:=by omega
 have ze:l.length<l.length+1:=by omega
 have y9:s.com.length+0<=4096:=by omega
 refine Qh rfl ?_;simp;repeat(refine s_ ?_;simp)
 refine Qo (sl':=[(2,.list [chA x]),(6,.vptr 1 0),(10,.vptr Y.length 0),(11,.i l.length)]) ?_ (by simp);refine Wh tOk mixed [10,13] (.val 0 (.val 2 (.val 3 (.val 4 (.val 5 (.val 6 (.val 7 (.val 8 (.val 9 (.two 1 (.one 10 (.val 11 (.val 12 (.one 13 (.done))))) 10 (.val 1 (.val 11 (.val 12 (.one 13 (.done))))))))))))))) rfl (by kernel_rfl) ?_;simp[zT,zP,rg,rh,rl,zd,ze,zl];refine⟨?_,?_⟩
 ·refine apS T33 T78 ?_;simp[R8,U3,zQ,gN,gT,rg,rh,rl,zc,zd,ze];refine⟨⟨λy hy=>by rw[xd.1 hy];exact⟨rfl,rfl⟩,by simp;omega⟩,?_⟩;try simp[gN,gT,rg,rh,rl,zc,zd,ze]
  refine Qo (sl':=[(6,.vptr 1 0),(10,.vptr Y.length 0)]) ?_ (by simp);refine Q1 λV hV=>?_;have v1:V[1]?=some (.vars [.i 0,.nils,.nils]):=by rw[hV];exact Qa (by omega) (Qc (Qa (by omega) z1 _) _) _
  have vT:V[Y.length]?=some (.vars [.i s.ep,.list (s.com.map chA),.sl (P) 2 0 (l.length+1)]):=by rw[hV];exact Qa (by omega) (Qc (Qa (by omega) zT _) _) _
  have vN:V[P]?=some (.va 134 2 (l.map encBt++[Af (⟨e,ch++[x]⟩:Bt) (Z.length)])):=by rw[hV];exact(by rw[Qe (Qc (Qa zh zP _) _)];simp[Af])
  have vQ:V[Z.length]?=some (.arr 78 3 ((⟨e,ch++[x]⟩:Bt).chs.map chA)):=by rw[hV];exact(by refine Qa (by omega) ?_ _;rw[zF (by simp)];simp)
  clear hV;have cSz:=P5 ⟨s.ep,s.com,l++[(⟨e,ch++[x]⟩:Bt)]⟩ (by simp only;omega) (by simp;omega) (λb hb=>by have:=zm b hb;omega) (by rw[za];omega);rw[za]at cSz;simp only[encSk]at cSz;refine S8 (by simp) (P) (Z.length) Y.length (⟨e,ch++[x]⟩:Bt) l s.ep (.list (s.com.map chA)) (by simp[Yf]) (l.length+1) (by simp) vN vQ vT λZ' x1 x2=>?_;have x3:=x2 1 _ v1 (by omega) (by omega) (by omega);have x4:=Qe x3 (.vars [.i s.ep,.list (s.com.map chA),.list ((l++[(⟨e,ch++[x]⟩:Bt)]).map encBt)]);have zv:(l++[(⟨e,ch++[x]⟩:Bt)]).length<=256:=by simp;omega
  have zf:(l++[(⟨e,ch++[x]⟩:Bt)]).map encBt=l.map encBt++[encBt (⟨e,ch++[x]⟩:Bt)]:=by simp
  generalize (l++[(⟨e,ch++[x]⟩:Bt)])=LL at *
  have r1:¬(256:Int)<LL.length:=by omega
  repeat(refine s_ ?_;simp[x1,r1])
  refine Qh rfl ?_;simp;repeat(refine s_ ?_;simp[x1])
  refine pcL (cSz) ?_;simp;repeat(refine s_ ?_;simp)
  refine Qb rfl (λh=>absurd (of_decide_eq_true h) (by omega)) (λ_=>?_);repeat(refine s_ ?_;simp[x1,x3,x4])
  first|exact zf|(rw[zf];simp)
 refine apS T33 T78 ?_;simp[R8,U3,zQ,gN,gT,rg,rh,rl,zc,zd,ze];refine⟨⟨λy hy=>by rw[xd.1 hy];exact⟨rfl,rfl⟩,by simp;omega⟩,?_⟩;try simp[gN,gT,rg,rh,rl,zc,zd,ze]
 refine Qo (sl':=[(6,.vptr 1 0),(10,.vptr Y.length 0)]) ?_ (by simp);refine Q1 λV hV=>?_;have v1:V[1]?=some (.vars [.i 0,.nils,.nils]):=by rw[hV];exact Qa (by omega) (Qc (Qa (by omega) z1 _) _) _
 have vT:V[Y.length]?=some (.vars [.i s.ep,.list (s.com.map chA),.sl (P) 2 0 (l.length+1)]):=by rw[hV];exact Qa (by omega) (Qc (Qa (by omega) zT _) _) _
 have vN:V[P]?=some (.va 134 2 (l.map encBt++[Af (⟨e,ch++[x]⟩:Bt) (Z.length)])):=by rw[hV];exact(by rw[Qe (Qc (Qa zh zP _) _)];simp[Af])
 have vQ:V[Z.length]?=some (.arr 78 3 ((⟨e,ch++[x]⟩:Bt).chs.map chA)):=by rw[hV];exact(by refine Qa (by omega) ?_ _;rw[zF (by simp)];simp)
 clear hV;have cSz:=P5 ⟨s.ep,s.com,l++[(⟨e,ch++[x]⟩:Bt)]⟩ (by simp only;omega) (by simp;omega) (λb hb=>by have:=zm b hb;omega) (by rw[za];omega);rw[za]at cSz;simp only[encSk]at cSz;refine S8 (by simp) (P) (Z.length) Y.length (⟨e,ch++[x]⟩:Bt) l s.ep (.list (s.com.map chA)) (by simp[Yf]) (l.length+1) (by simp) vN vQ vT λZ' x1 x2=>?_;have x3:=x2 1 _ v1 (by omega) (by omega) (by omega);have x4:=Qe x3 (.vars [.i s.ep,.list (s.com.map chA),.list ((l++[(⟨e,ch++[x]⟩:Bt)]).map encBt)]);have zv:(l++[(⟨e,ch++[x]⟩:Bt)]).length<=256:=by simp;omega
 have zf:(l++[(⟨e,ch++[x]⟩:Bt)]).map encBt=l.map encBt++[encBt (⟨e,ch++[x]⟩:Bt)]:=by simp
 generalize (l++[(⟨e,ch++[x]⟩:Bt)])=LL at *
 have r1:¬(256:Int)<LL.length:=by omega
 repeat(refine s_ ?_;simp[x1,r1])
 refine Qh rfl ?_;simp;repeat(refine s_ ?_;simp[x1])
 refine pcL (cSz) ?_;simp;repeat(refine s_ ?_;simp)
 refine Qb rfl (λh=>absurd (of_decide_eq_true h) (by omega)) (λ_=>?_);repeat(refine s_ ?_;simp[x1,x3,x4])
 first|exact zf|(rw[zf];simp)
end
section
section
variable {P:Program} [Env P] {T:TT} {nt k:Nat} {S:AS}
def Wz (hT:TOk P T) (hm:P.follows .mixedOrders=true) {Q:Exit->AS->Prop} {id:Nat} {l:List Oper} (Wr:List Nat) (p:PlanM) (Ph:AS->Prop) (hd:Yh nt l=true)
  (hp:(Region.noSelect l.toArray && p.size==l.length && W5 l.toArray (Yu l []) Wr p (Array.replicate l.length false))=true)
  (h:Q2 P T nt k l.toArray Wr.contains Ph p S) (hn:∀S',Ph S'->Q .normal S'):AWP P nt k (.region id l.toArray true) Q S:=
 (Wh (Q:=λe S=>e= .normal/\Ph S) hT hm Wr p hd hp (E6 (λ_ h=>⟨rfl,h⟩) p S h)).mono λe S ⟨he,hr⟩=>by subst he;exact hn S hr
end
end
section
open Go.Proofs
def k0c{s:Snk}(h:WfS s)(e:Int)(he:s.ep<=e)(zk:e<=1099511627776):PC prog 48 [encSk s,.i e] (λr=>r= .tup [encSk (Xx s e),.i 0]):=by
 refine pcB func48 results48 ntmps48 ?_;simp only[Qf];obtain⟨f1,f2⟩:=h.few;have cC:=Pz h;have zc:=λH=>Ob s (by omega) (by have:=h.len;omega) (λb hb=>by have:=f2 b hb;omega) s.pend.length H;have hlen:=h.len;have s1:=h.e1;have s2:=h.e2;have zd:IntKind.i64.wrap (e+1)=e+1:=wrap_i64 _ (by omega) (by omega);have q1:¬e<s.ep:=by omega
 have q2:¬1099511627776<e:=by omega
 have q3:¬e<0:=by omega
 simp only[encSk]at cC zc |-;repeat(refine s_ ?_;simp)
 refine pcL (cC) ?_;simp;repeat(refine s_ ?_;simp)
 refine Qh rfl ?_;simp;repeat(refine s_ ?_;simp[q1,q2,q3])
 refine Qh rfl ?_;simp;repeat(refine s_ ?_;simp)
 refine Qd rfl rfl (zc _) rfl ?_;rintro r Y ⟨hx,C,P,Q,rows,rfl,hC,hP,za,yC,yP,⟨ze,zf⟩,hQ⟩;have z8:=ze (zR _);subst z8;have y0:=hx 0 _ rfl;have y1:=hx 1 _ rfl;have zl:2<=C:=by simpa using hC
 have zm:2<=P:=by simpa using hP
 have zn:=Ql yC;have zo:=Ql yP;clear hx hC hP ze zf hQ;have hle:=g0t s.pend (e+1);have zb:(lbE s.pend (e+1):Int)<=s.pend.length:=by omega
 simp[zd];repeat(refine s_ ?_;simp[zd])
 refine Qd rfl rfl (O9 s.pend (by omega) h.asc (e+1) P _ _ (Qc yP _) (Da (k:=s.pend.length) (Q:=0) (λ_=>rfl) (λx hx=>by have:=(zD.1 hx).1;omega))) rfl ?_;rintro r Z ⟨rfl,hz⟩;have z1:=hz _ _ (Qc y1 _);have zC:=hz _ _ (Qc yC _);have zP:=hz _ _ (Qc yP _);have zT:Z[Y.length]?=some (.vars [.i s.ep,.sl C 3 0 s.com.length,.sl P 2 0 s.pend.length]):=hz _ _ (by simp);clear hz y0 y1 yC yP;simp;refine R0 (I8 tOk rfl ?_);simp[zT,zb,hle];have zg:¬C=P:=za;have zh:xJ (lbE s.pend (e+1)) (s.pend.map encBt)=(Xx s e).pend.map encBt:=by rw[Xx,uD]
 refine Qo (sl':=[(4,.vptr 1 0),(7,.vptr Y.length 0)]) ?_ (by simp);refine Q1 λW hW=>?_;have w1:W[1]?=some (.vars [.i 0,.nils,.nils]):=by rw[hW];exact Qa (by omega) z1 _
 have wC:W[C]?=some (.arr 78 3 (s.com.map chA)):=by rw[hW];exact Qa (by omega) zC _
 have wP:W[P]?=some (.va 134 2 (s.pend.map encBt)):=by rw[hW];exact Qa (by omega) zP _
 have wT:W[Y.length]?=some (.vars [.i s.ep,.sl C 3 0 s.com.length,.sl P 2 0 (lbE s.pend (e+1))]):=by rw[hW];exact Qe zT _
 clear hW zT zP zC z1;refine Il P wP (Ao _) ?_;have u1:=Qa (j:=P) (by omega) w1 (.arr 134 2 (s.pend.map encBt));have uC:=Qa (j:=P) (λh=>za h.symm) wC (.arr 134 2 (s.pend.map encBt));have uP:=Qe wP (.arr 134 2 (s.pend.map encBt));have uT:=Qa (j:=P) (by omega) wT (.arr 134 2 (s.pend.map encBt));generalize W.set P (.arr 134 2 (s.pend.map encBt))=U at *;clear w1 wC wP wT;refine Ey P uP Y.length uT ?_
 have zi:wO (λy=>AV.fz P 2 (s.pend.map encBt) y) [.i s.ep,.sl C 3 0 s.com.length,.sl P 2 0 (lbE s.pend (e+1))]=[.i s.ep,.sl C 3 0 s.com.length,.list ((Xx s e).pend.map encBt)]:=by simp only[z_,yM,Tv,Od];rw[if_neg (λh=>za h.1),if_pos ⟨trivial,trivial,by simp;omega⟩,xB,zh]
 rw[zi];simp only[z_,yM,Uv];have v1:=Qa (j:=Y.length) (by omega) (Qa (j:=P) (by omega) u1 .dead) (.vars [.i s.ep,.sl C 3 0 s.com.length,.list ((Xx s e).pend.map encBt)]);have vC:=Qa (j:=Y.length) (by omega) (Qa (j:=P) (λh=>za h.symm) uC .dead) (.vars [.i s.ep,.sl C 3 0 s.com.length,.list ((Xx s e).pend.map encBt)]);have vT:=Qe (Qa (j:=P) (by omega) uT .dead) (.vars [.i s.ep,.sl C 3 0 s.com.length,.list ((Xx s e).pend.map encBt)]);generalize (U.set P .dead).set Y.length (.vars [.i s.ep,.sl C 3 0 s.com.length,.list ((Xx s e).pend.map encBt)])=V at *;refine Ey C vC Y.length vT ?_
 have zj:wO (λy=>AV.fz C 3 (s.com.map chA) y) [.i s.ep,.sl C 3 0 s.com.length,.list ((Xx s e).pend.map encBt)]=[.i s.ep,.list (s.com.map chA),.list ((Xx s e).pend.map encBt)]:=by simp only[z_,yM,Tv,Od,Yf];rw[if_pos ⟨trivial,trivial,by simp⟩,xB,zY (by simp)]
 rw[zj];simp only[z_,yM,Uv];have x1:=Qa (j:=Y.length) (by omega) (Qa (j:=C) (by omega) v1 .dead) (.vars [.i s.ep,.list (s.com.map chA),.list ((Xx s e).pend.map encBt)]);have xT:=Qe (Qa (j:=C) (by omega) vT .dead) (.vars [.i s.ep,.list (s.com.map chA),.list ((Xx s e).pend.map encBt)]);have x2:=Qe x1 (.vars [.i s.ep,.list (s.com.map chA),.list ((Xx s e).pend.map encBt)]);generalize (V.set C .dead).set Y.length (.vars [.i s.ep,.list (s.com.map chA),.list ((Xx s e).pend.map encBt)])=X at *
 repeat(refine s_ ?_;simp[x1,xT,x2])
 exact⟨rfl,rfl⟩
def q0m{q:Nat}{Rr:Option Code->List AObj->Prop}{sl:List (Nat×AV)}{H:List AObj}(h:∀W,W=H->Gy q Rr .normal ⟨sl,W⟩):Gy q Rr .normal ⟨sl,H⟩:=h H rfl
def CmI(s:Snk)(T N:Nat)(pre:List Int)(K:List AObj):Prop:=∃C,T≠C/\N≠C/\2<=C/\K[1]?=some (.vars [.i 0,.nils,.nils])/\K[T]?=some (.vars [.i s.ep,.sl C 3 0 (s.com++pre).length,.list (s.pend.map encBt)])/\K[C]?=some (.arr 78 3 ((s.com++pre).map chA))
def CmI.app{s:Snk}{T N:Nat}{pre:List Int}{K:List AObj}(h:CmI s T N pre K)(L:List AObj):CmI s T N pre (K++L):=by obtain⟨C,h1,h2,h3,h4,h5,h6⟩:=h;exact⟨C,h1,h2,h3,Qc h4 L,Qc h5 L,Qc h6 L⟩
def y0q{s:Snk}(h:WfS s)(e:Int)(he:s.ep<=e)(ye:e<=1099511627776)(zv:Y2 s<=4096):PC prog 27 [encSk s,.i e] (λr=>r= .tup [encSk (Nu s e),.i 0]):=by
 refine pcB func27 results27 ntmps27 ?_;simp only[Qf];obtain⟨f1,f2⟩:=h.few;have cC:=Pz h;have zn:=λH=>Ob s (by omega) (by have:=h.len;omega) (λb hb=>by have:=f2 b hb;omega) s.pend.length H;have hlen:=h.len;have s1:=h.e1;have s2:=h.e2;have zw:IntKind.i64.wrap (e+1)=e+1:=wrap_i64 _ (by omega) (by omega);have q1:¬e<s.ep:=by omega
 have q2:¬1099511627776<e:=by omega
 have q3:¬e<0:=by omega
 simp only[encSk]at cC zn |-;repeat(refine s_ ?_;simp)
 refine pcL (cC) ?_;simp;repeat(refine s_ ?_;simp)
 refine Qh rfl ?_;simp;repeat(refine s_ ?_;simp[q1,q2,q3])
 refine Qh rfl ?_;simp;repeat(refine s_ ?_;simp)
 refine Qd rfl rfl (zn _) rfl ?_;rintro r Y ⟨hx,C,P,Q,rows,rfl,hC,hP,zi,yC,yP,⟨zo,zx⟩,hQ⟩;have za:=zo (zR _);subst za;have y0:=hx 0 _ rfl;have y1:=hx 1 _ rfl;have yf:2<=C:=by simpa using hC
 have yg:2<=P:=by simpa using hP
 have yh:=Ql yC;have yi:=Ql yP;clear hx hC hP zo zx hQ;have hle:=g0t s.pend (e+1);have zb:(lbE s.pend (e+1):Int)<=s.pend.length:=by omega
 simp;refine Qo (sl':=[(1,.i e),(2,.vptr 0 0),(4,.vptr 1 0),(7,.vptr Y.length 0)]) ?_ (by simp);refine Q1 λE hE=>?_;have e0:E[0]?=some (.vars [.i s.ep,.list (s.com.map chA),.list (s.pend.map encBt)]):=by rw[hE];exact Qc y0 _
 have e1:E[1]?=some (.vars [.i 0,.nils,.nils]):=by rw[hE];exact Qc y1 _
 have eC:E[C]?=some (.arr 78 3 (s.com.map chA)):=by rw[hE];exact Qc yC _
 have eP:E[P]?=some (.va 134 2 (s.pend.map encBt)):=by rw[hE];exact Qc yP _
 have eT:E[Y.length]?=some (.vars [.i s.ep,.sl C 3 0 s.com.length,.sl P 2 0 s.pend.length]):=by rw[hE];simp
 clear hE y0 y1 yC yP;have yj:=Ql eT;repeat(refine s_ ?_;simp[e0,q1])
 refine Qh rfl ?_;simp;repeat(refine s_ ?_;simp[eT,zw])
 refine Qd rfl rfl (O9 s.pend (by omega) h.asc (e+1) P _ _ eP (Da (k:=s.pend.length) (Q:=0) (λ_=>rfl) (λx hx=>by have:=(zD.1 hx).1;omega))) rfl ?_;rintro r Z ⟨rfl,hz⟩;have z1:=hz _ _ e1;have zC:=hz _ _ eC;have zP:=hz _ _ eP;have zT:=hz _ _ eT;clear hz e0 e1 eC eP eT;simp;refine Qo (sl':=[(1,.i e),(4,.vptr 1 0),(7,.vptr Y.length 0),(8,.i (lbE s.pend (e+1)))]) ?_ (by simp);refine Il P zP (Ao _) ?_;have u1:=Qa (j:=P) (by omega) z1 (.arr 134 2 (s.pend.map encBt));have uC:=Qa (j:=P) (λh=>zi h.symm) zC (.arr 134 2 (s.pend.map encBt));have uP:=Qe zP (.arr 134 2 (s.pend.map encBt));have uT:=Qa (j:=P) (by omega) zT (.arr 134 2 (s.pend.map encBt));generalize Z.set P (.arr 134 2 (s.pend.map encBt))=U at *;clear z1 zC zP zT;refine Ey P uP Y.length uT ?_
 have zy:wO (λy=>AV.fz P 2 (s.pend.map encBt) y) [.i s.ep,.sl C 3 0 s.com.length,.sl P 2 0 s.pend.length]=[.i s.ep,.sl C 3 0 s.com.length,.list (s.pend.map encBt)]:=by simp only[z_,yM,Tv,Od];rw[if_neg (λh=>zi h.1),if_pos ⟨trivial,trivial,by simp⟩,xB,zY (by simp)]
 rw[zy];simp only[z_,yM,Uv,Tv];have v1:=Qa (j:=Y.length) (by omega) (Qa (j:=P) (by omega) u1 .dead) (.vars [.i s.ep,.sl C 3 0 s.com.length,.list (s.pend.map encBt)]);have vC:=Qa (j:=Y.length) (by omega) (Qa (j:=P) (λh=>zi h.symm) uC .dead) (.vars [.i s.ep,.sl C 3 0 s.com.length,.list (s.pend.map encBt)]);have vT:=Qe (Qa (j:=P) (by omega) uT .dead) (.vars [.i s.ep,.sl C 3 0 s.com.length,.list (s.pend.map encBt)]);generalize (U.set P .dead).set Y.length (.vars [.i s.ep,.sl C 3 0 s.com.length,.list (s.pend.map encBt)])=V at *;clear u1 uC uP uT
 have zp:xJ (lbE s.pend (e+1)) (s.pend.map encBt)=(s.pend.take (lbE s.pend (e+1))).map encBt:=by rw[uD]
 have zq:List.drop (lbE s.pend (e+1)) (s.pend.map encBt)=(Nu s e).pend.map encBt:=by rw[Nu,List.map_drop]
 obtain⟨TK,zc⟩:∃TK,s.pend.take (lbE s.pend (e+1))=TK:=⟨_,rfl⟩
 rw[zc]at zp;have zj:(Nu s e).com=s.com++TK.flatMap (·.chs):=by rw[Nu,zc]
 have zz:TK.length<=256:=by rw[<-zc,List.length_take];omega
 have zk:∀b∈TK,b.chs.length<=4096:=λb hb=>f2 b (List.mem_of_mem_take (by rw[zc];exact hb));have zd:s.com.length+(TK.flatMap (·.chs)).length<=4096:=by have h1:=zv;rw[Y2,<-List.take_append_drop (lbE s.pend (e+1)) s.pend,wm,zc,List.length_append]at h1;omega
 repeat(refine s_ ?_;simp[vT,hle,zb,zp])
 refine pcL (Ho TK) ?_;simp;repeat(refine s_ ?_;simp)
 have yk:=Ql vT;refine Ez rfl (Rf:=λ_ H'=>CmI s Y.length V.length (TK.flatMap (·.chs)) H'/\V.length<H'.length/\∃sl' zr a' b',H'[V.length]?=some (.lp true none 59 sl' zr a' b')) ?_ ?_
 ·simp;refine Fy λH1 ze=>?_;have z8:=congrArg (λh:List AObj=>h[V.length]?) ze;simp at z8;have k1:H1[1]?=some (.vars [.i 0,.nils,.nils]):=by rw[ze];exact Qc v1 _
  have kC:H1[C]?=some (.arr 78 3 (s.com.map chA)):=by rw[ze];exact Qc vC _
  have kT:H1[Y.length]?=some (.vars [.i s.ep,.sl C 3 0 s.com.length,.list (s.pend.map encBt)]):=by rw[ze];exact Qc vT _
  clear ze;refine FC.mono (Vr TK (by omega) (λb hb=>by have:=zk b hb;omega) V.length (by rfl) (by rfl) (λpre K=>CmI s Y.length V.length pre K/\K[V.length]? =H1[V.length]?) H1 (λ_ K h=>h.2.trans z8) (λ_ K L h=>⟨h.1.app L,by rw[<-h.2,List.getElem?_append_left (Ql (h.2.trans z8))]⟩) ?_ ⟨⟨C,by omega,by omega,by omega,k1,by simpa using kT,by simpa using kC⟩,rfl⟩) ?_
  ·rintro pre x post K heq ⟨⟨C',c1,c2,c3,zf,zg,zh⟩,k5⟩ hK;have h8:=k5.trans z8;simp[Ry,chA];have z1:=Qa (j:=V.length) (by have:=Ql v1;omega) zf .dead;have zT:=Qa (j:=V.length) (by omega) zg .dead;have zC:=Qa (j:=V.length) c2 zh .dead;have zN:=Qe h8 .dead;have zl:(K.set V.length .dead).length=K.length:=by simp
   have yl:=Ql v1;generalize K.set V.length .dead=Z at *
   have zt:=Ql zT;have gT:=λL=>Qc zT L;have gC:=λL=>Qc zC L;have gx:∀L,(Z++AObj.vars [.i 1,.i 0,.list (bnA x)]::L)[Z.length]?=some (.vars [.i 1,.i 0,.list (bnA x)]):=λL=>by simp
   have ym:s.com.length+pre.length+1<=4096:=by rw[heq]at zd;simp at zd;omega
   have y5:Z[Y.length]= .vars [.i s.ep,.sl C' 3 0 (s.com++pre).length,.list (s.pend.map encBt)]:=(yR zt).2 zT;have y6:(s.com++(pre++[x])).length=(s.com++pre).length+1:=by simp;omega
   have y7:(s.com++(pre++[x])).map chA=(s.com++pre).map chA++[chA x]:=by simp
   have y8:(s.com++pre).length<=4095:=by simp;omega
   generalize s.com++pre=CP at *
   repeat(refine s_ ?_;simp[gT,gx])
   refine apS T33 T78 ?_;simp[R8,U3,gC];refine⟨⟨λy hy=>by rw[xd.1 hy];exact⟨rfl,rfl⟩,by simp;omega⟩,?_⟩;have y9:Y.length<Z.length+1:=by omega
   have ya:Y.length<Z.length+2:=by omega
   have zu:C'≠Y.length:=λh=>c1 h.symm;simp[yH,zW,zt,zu,y5,y9,ya];repeat(refine s_ ?_;simp)
   have yn:=Ql zN;have yb:=Ql zC;refine q0m λW hW=>?_;have wN:W[V.length]?=some .dead:=by rw[hW];exact Qc (Qa (by omega) (Qa (λh=>c2 h.symm) (Qc zN _) _) _) _
   have w1:W[1]?=some (.vars [.i 0,.nils,.nils]):=by rw[hW];exact Qc (Qa (by omega) (Qa (by omega) (Qc z1 _) _) _) _
   have wT:W[Y.length]?=some (.vars [.i s.ep,.sl (Z.length+2) 3 0 (s.com++(pre++[x])).length,.list (s.pend.map encBt)]):=by rw[hW,y6];exact Qc (Qe (Qa zu (Qc zT _) _) _) _
   have wC:W[Z.length+2]?=some (.arr 78 3 ((s.com++(pre++[x])).map chA)):=by rw[hW,y7,zF (by simp)];simp[chA]
   have wl:Z.length<=W.length:=by rw[hW];simp;omega
   clear hW;exact⟨wN,rfl,⟨⟨Z.length+2,by omega,by omega,by omega,Qa (by omega) w1 _,Qa (by omega) wT _,Qa (by omega) wC _⟩,by have hq:=Ql wN;first|(rw[zJ hq,z8])|(simp[hq,z8])⟩,by simp;omega⟩
  rintro r H' ⟨⟨h1,h2⟩,h3⟩;exact⟨h1,Ql (h2.trans z8),_,_,_,_,h2.trans z8⟩
 rintro r H' ⟨⟨C',c1,c2,c3,zf,zg,zh⟩,hl,sl',zr,a',b',h1⟩;refine⟨_,_,_,_,_,_,_,h1,?_⟩;simp;have yo:=Ql v1;have w1:=Qa (j:=V.length) (by omega) zf .dead;have wT:=Qa (j:=V.length) (by omega) zg .dead;have wC:=Qa (j:=V.length) c2 zh .dead;generalize H'.set V.length .dead=W at *;clear zf zg zh h1 hl;refine Qo (sl':=[(1,.i e),(4,.vptr 1 0),(7,.vptr Y.length 0),(8,.i (lbE s.pend (e+1)))]) ?_ (by simp)
 refine Ey C' wC Y.length wT ?_;have yc:wO (λy=>AV.fz C' 3 ((s.com++TK.flatMap (·.chs)).map chA) y) [.i s.ep,.sl C' 3 0 (s.com++TK.flatMap (·.chs)).length,.list (s.pend.map encBt)]=[.i s.ep,.list ((Nu s e).com.map chA),.list (s.pend.map encBt)]:=by simp only[z_,yM,Tv,Od,Yf];rw[if_pos ⟨trivial,trivial,by simp⟩,xB,zY (by simp),zj]
 rw[yc];simp only[z_,yM,Uv,Tv];have x1:=Qa (j:=Y.length) (by omega) (Qa (j:=C') (by omega) w1 .dead) (.vars [.i s.ep,.list ((Nu s e).com.map chA),.list (s.pend.map encBt)]);have xT:=Qe (Qa (j:=C') (λh=>c1 h.symm) wT .dead) (.vars [.i s.ep,.list ((Nu s e).com.map chA),.list (s.pend.map encBt)]);generalize (W.set C' .dead).set Y.length (.vars [.i s.ep,.list ((Nu s e).com.map chA),.list (s.pend.map encBt)])=X at *
 have yp:=Ql xT;obtain⟨CC,yd⟩:∃CC,(Nu s e).com.map chA=CC:=⟨_,rfl⟩
 obtain⟨CPd,zm⟩:∃CP,(Nu s e).pend.map encBt=CP:=⟨_,rfl⟩
 rw[yd]at xT |-;rw[zm]at zq |-;have xT2:=Qe xT (.vars [.i e,.list CC,.list (s.pend.map encBt)]);have xT3:=Qe xT2 (.vars [.i e,.list CC,.list CPd]);have xT4:=Qe xT (.vars [.i e,.list CC,.list CPd]);have x11:=Qa (j:=Y.length) (by omega) x1 (.vars [.i e,.list CC,.list CPd]);have x12:=Qe x11 (.vars [.i e,.list CC,.list CPd]);refine R0 ?_;refine Qw tOk mixed [6,8] (.val 0 (.val 1 (.val 2 (.val 3 (.val 4 (.val 5 (.one 6 (.val 7 (.one 8 (.done)))))))))) rfl (by kernel_rfl) ?_;simp[xT,xT2,zb,hle,zq];repeat(refine s_ ?_;simp[xT3,xT4,x11,x12])
 rfl
end
section
open Go.Proofs
attribute [simp] T76
section
variable {P:Program} [Env P] {nt k:Nat} {ops:Array Oper} {o:Oper} {R:AS->Prop}
def Ip{wr:Bool}{sl:List (Nat×AV)}{H:List AObj}(i:Nat){e c:Nat}{xs:List AV}(hi:H[i]?=some (.arr e c xs))(h:Wu P nt k wr ops o ⟨sl,H.set i (.arr e c (xs.map AV.nrm))⟩ R):Wu P nt k wr ops o ⟨sl,H⟩ R:=
 λC a w K Q hs=>h C a w K Q (hs.swap hi rfl (λ_ _=>Uq.nrmArr))
end
def Pm(n:Int):PC prog 26 [.i n] (λr=>r=chA n):=by refine pcB func26 results26 ntmps26 ?_;simp only[Qf];simp only[chA,bnA];repeat(refine s_ ?_;simp)
def L4(n:Int):PC prog 50 [.agg [.list (bnA n)],.agg [.list (bnA n)]] (λr=>r= .bool true):=by
 refine pcB func50 results50 ntmps50 ?_;simp only[Qf];simp only[bnA];repeat(refine s_ ?_;simp)
 refine Qh rfl ?_;simp;repeat(refine s_ ?_;simp)
 have hw1:IntKind.i64.wrap 1=1:=by decide
 refine Qk (Qg (sl':=[(2,.vptr 0 0),(3,.vptr 1 0),(5,.i (0:Nat))]) ?_ (by simp));refine Qp (P:=prog) (F:=λ(u:Nat×List AObj)=>⟨[(2,.vptr 0 0),(3,.vptr 1 0),(5,.i u.1)],u.2⟩)
  (λu=>u.1<=1/\u.2[0]?=some (.vars [.list [.agg [.i 0,.i n,.i 0,.i 0]]])/\u.2[1]?=some (.vars [.list [.agg [.i 0,.i n,.i 0,.i 0]]])) (λu=>1 - u.1) ?_ (0,_) ⟨by omega,rfl,rfl⟩
 rintro⟨j,G⟩ ⟨hj,g0,g1⟩ ih;simp only at hj g0 g1 ih |-;have key:j=0\/j=1:=by omega
 rcases key with rfl|rfl
 ·repeat(refine s_ ?_;simp[g0,g1])
  refine Qh rfl ?_;simp;repeat(refine s_ ?_;simp)
  refine Qw tOk mixed [] (.val 0 (.val 1 (.val 2 (.val 3 (.val 4 (.val 5 (.val 6 (.val 7 (.val 8 (.val 9 (.val 10 (.done)))))))))))) rfl (by kernel_rfl) ?_;simp[g0,g1];refine Qh rfl ?_;simp;repeat(refine s_ ?_;simp[hw1])
  refine Qg (sl':=[(2,.vptr 0 0),(3,.vptr 1 0),(5,.i (1:Nat))]) ?_ (by simp);exact ih (1,G) ⟨by simp,g0,g1⟩ (by simp)
 repeat(refine s_ ?_;simp[g0,g1])
 refine Qh rfl ?_;simp;repeat(refine s_ ?_;simp)
def u06(n:Int):PC prog 25 [chA n,chA n] (λr=>r= .bool true):=by
 refine pcB func25 results25 ntmps25 ?_;simp only[Qf];simp only[chA];repeat(refine s_ ?_;simp)
 refine pcL (L4 n) ?_;simp;repeat(refine s_ ?_;simp)
end
section
open Go.Proofs
@[simp] theorem deref_pvP (g:Bool) (x:Option Att):deref g (pvP x)=some (pvP x):=by cases x<;>rfl
@[simp] theorem pure_pvP (x:Option Att):AV.pure (pvP x)=true:=by cases x<;>simp[pvP]
@[simp] theorem nrm_pvP (x:Option Att):(pvP x).nrm=pvP x:=by cases x<;>simp[pvP]
def u0r(c:Crd){R W:Nat}{pv:Option Att}{a:Att}(h:AOk R W c.dur c.next pv a):PC prog 91 [.iptr (cAt a),pvP pv,.iptr (cCr c)] (λr=>r= .bool true):=by
 refine pcB func91 results91 ntmps91 ?_;simp only[Qf];have h1:=h.lo;have h2:=h.hi;simp only[cAt,cCr];cases pv with
 |none=>
  simp only[pvP]at h1 |-;repeat(refine s_ ?_;simp)
  refine Qh rfl ?_;simp;repeat(refine s_ ?_;simp)
  refine Qw tOk mixed [] (.val 0 (.val 1 (.val 2 (.val 3 (.val 4 (.val 5 (.val 6 (.val 7 (.val 8 (.val 9 (.val 10 (.val 11 (.val 12 (.val 13 (.val 14 (.val 15 (.done))))))))))))))))) rfl (by kernel_rfl) ?_;simp[h1,h2];repeat ((refine s_ ?_;simp[h1,h2]))
 |some b=>
  simp only[pvP,cAt]at h1 |-;repeat(refine s_ ?_;simp)
  refine Qh rfl ?_;simp;repeat(refine s_ ?_;simp)
  refine Qw tOk mixed [] (.val 0 (.val 1 (.val 2 (.val 3 (.val 4 (.val 5 (.val 6 (.val 7 (.val 8 (.val 9 (.val 10 (.val 11 (.val 12 (.val 13 (.val 14 (.val 15 (.done))))))))))))))))) rfl (by kernel_rfl) ?_;simp[h1,h2];repeat(refine s_ ?_;simp[h1,h2])
def j0e(c:Crd){R W:Nat}{pv:Option Att}{a a0:Att}(h:AOk R W c.dur c.next pv a)(r1:1<=R)(r2:R<=8)(h0:c.atts[0]?=some a0)(hr:a0.rds.length=R):PC prog 92 [.iptr (cAt a),pvP pv,.iptr [.fn (.func 90) [] [.iptr (cCr c)]]] (λr=>r= .bool true):=by
 refine pcB func92 results92 ntmps92 ?_;simp only[Qf];have h1:=h.rd;simp only[cAt];repeat(refine s_ ?_;simp)
 refine Qw tOk mixed [] (.val 0 (.val 1 (.val 2 (.val 3 (.val 4 (.one 5 (.val 6 (.val 7 (.val 8 (.val 9 (.val 10 (.val 11 (.val 12 (.one 13 (.val 14 (.val 15 (.val 16 (.val 17 (.val 18 (.done)))))))))))))))))))) rfl (by kernel_rfl) ?_;simp[h1];refine pcL (Ta R 1 8 (by omega) (by omega)) ?_;simp[h1];refine pcL (V1 c a0 h0) ?_;simp[hr,h1];repeat(refine s_ ?_;simp[hr,h1])
def g0b(c:Crd){R W:Nat}{pv:Option Att}{a a0:Att}(h:AOk R W c.dur c.next pv a)(w1:1<=W)(w2:W<=8)(h0:c.atts[0]?=some a0)(hr:a0.hv.length=W):PC prog 93 [.iptr (cAt a),pvP pv,.iptr [.fn (.func 90) [] [.iptr (cCr c)]]] (λr=>r= .bool true):=by
 refine pcB func93 results93 ntmps93 ?_;simp only[Qf];have h1:=h.hvl;have h2:=h.opl;simp only[cAt];repeat(refine s_ ?_;simp)
 refine Qw tOk mixed [] (.val 0 (.val 1 (.val 2 (.val 3 (.val 4 (.one 5 (.val 6 (.val 7 (.val 8 (.val 9 (.val 10 (.val 11 (.val 12 (.one 13 (.val 14 (.val 15 (.val 16 (.val 17 (.val 18 (.val 19 (.val 20 (.val 21 (.val 22 (.val 23 (.val 24 (.val 25 (.val 26 (.val 27 (.val 28 (.val 29 (.val 30 (.val 31 (.done))))))))))))))))))))))))))))))))) rfl (by kernel_rfl) ?_;simp[h1];refine pcL (Ta W 1 8 (by omega) (by omega)) ?_;simp[h1];refine pcL (V1 c a0 h0) ?_;simp[hr,h1,h2];repeat(refine s_ ?_;simp[hr,h1,h2])
def k0s{R W:Nat}{lo hi:Int}{pv:Option Att}{a:Att}(h:AOk R W lo hi pv a)(w2:W<=8):PC prog 94 [.iptr (cAt a),pvP pv] (λr=>r= .bool true):=by
 refine pcB func94 results94 ntmps94 ?_;simp only[Qf];have h1:=h.hvl;have h2:=h.opl;have zb:IntKind.i64.wrap 0=0:=by decide
 simp only[cAt];repeat(refine s_ ?_;simp)
 refine E9 a.ops.length (λ_=>True) (λj=>[(0,.iptr [.i a.num,.list (a.rds.map avRdr),.list (a.ops.map avOpr),.list (a.hv.map AV.bool)]),(10,.list (a.ops.map avOpr)),(11,.i a.ops.length),(12,.i j)]) (λ_=>[]) rfl (by simp) (by simp) (by simp) (by simp) trivial ?_;intro j hj _ ih;repeat(refine s_ ?_;simp)
 refine Qb rfl (λzc=>?_) (λzd=>?_)
 ·have z1:j<a.ops.length:=by simpa using zc
  have z8:j<a.hv.length:=by omega
  have hw:=wz j (by omega);have za:=h.emp j _ (zG z1);rw[zG z8]at za;have key:a.hv[j]=true\/(a.hv[j]=false/\a.ops[j]=Rv):=by
   cases hv:a.hv[j]
   ·exact .inr ⟨rfl,za (by rw[hv])⟩
   exact .inl rfl
  rcases key with hv|⟨hv,ho⟩
  ·repeat(refine s_ ?_;simp[z1,z8,hv])
   refine Qh rfl ?_;simp;repeat(refine s_ ?_;simp[hw])
   refine Q8 _ (ih z1 trivial) rfl (by simp) ?_ (by simp) (by simp);simp
  repeat(refine s_ ?_;simp[z1,z8,hv,ho,Rv,zb])
  refine Qh rfl ?_;simp;repeat(refine s_ ?_;simp[hw])
  refine Q8 _ (ih z1 trivial) rfl (by simp) ?_ (by simp) (by simp);simp
 repeat(refine s_ ?_;simp)
def k07{R W:Nat}{lo hi:Int}{pv:Option Att}{a:Att}(h:AOk R W lo hi pv a)(w2:W<=8):PC prog 95 [.iptr (cAt a),pvP pv] (λr=>r= .bool true):=by
 refine pcB func95 results95 ntmps95 ?_;simp only[Qf];have h1:=h.hvl;have z8:=h.ord;clear h;simp only[cAt];cases pv with
 |none=>
  simp only[pvP];repeat(refine s_ ?_;simp)
  refine E9 a.hv.length (λ_=>True) (λj=>[(1,.nilp),(10,.list (a.hv.map AV.bool)),(11,.i a.hv.length),(12,.i j)]) (λ_=>[]) rfl (by simp) (by simp) (by simp) (by simp) trivial ?_;intro j hj _ ih;repeat(refine s_ ?_;simp)
  refine Qb rfl (λza=>?_) (λzc=>?_)
  ·have z1:j<a.hv.length:=by simpa using za
   have hw:=wz j (by omega);have key:a.hv[j]=true\/a.hv[j]=false:=by cases a.hv[j]<;>simp
   rcases key with hv|hv
   ·repeat(refine s_ ?_;simp[z1,hv])
    refine Qh rfl ?_;simp;repeat(refine s_ ?_;simp[hw])
    refine Q8 _ (ih z1 trivial) rfl (by simp) ?_ (by simp) (by simp);simp
   repeat(refine s_ ?_;simp[z1,hv])
   refine Qh rfl ?_;simp;repeat(refine s_ ?_;simp[hw])
   refine Q8 _ (ih z1 trivial) rfl (by simp) ?_ (by simp) (by simp);simp
  repeat ((refine s_ ?_;simp))
 |some b=>
  simp only[pvP,cAt];repeat(refine s_ ?_;simp)
  refine E9 a.hv.length (λ_=>True) (λj=>[(1,.iptr [.i b.num,.list (b.rds.map avRdr),.list (b.ops.map avOpr),.list (b.hv.map AV.bool)]),(10,.list (a.hv.map AV.bool)),(11,.i a.hv.length),(12,.i j)]) (λ_=>[]) rfl (by simp) (by simp) (by simp) (by simp) trivial ?_;intro j hj _ ih;repeat(refine s_ ?_;simp)
  refine Qb rfl (λza=>?_) (λzc=>?_)
  ·have z1:j<a.hv.length:=by simpa using za
   have hw:=wz j (by omega);have zb:=z8 b rfl j;rw[zG z1]at zb;have key:(a.hv[j]=true/\∃hq:j<b.hv.length,b.hv[j]=true)\/a.hv[j]=false:=by
    cases hv:a.hv[j]
    ·exact .inr rfl
    exact .inl ⟨rfl,zD.1 (zb (by rw[hv]))⟩
   rcases key with⟨hv,hq,hb⟩|hv
   ·repeat(refine s_ ?_;simp[z1,hv,hq,hb])
    refine Qh rfl ?_;simp;repeat(refine s_ ?_;simp[hw])
    refine Q8 _ (ih z1 trivial) rfl (by simp) ?_ (by simp) (by simp);simp
   by_cases hq:j<b.hv.length
   ·repeat(refine s_ ?_;simp[z1,hv,hq])
    refine Qh rfl ?_;simp;repeat(refine s_ ?_;simp[hw])
    refine Q8 _ (ih z1 trivial) rfl (by simp) ?_ (by simp) (by simp);simp
   repeat(refine s_ ?_;simp[z1,hv,hq])
   refine Qh rfl ?_;simp;repeat(refine s_ ?_;simp[hw])
   refine Q8 _ (ih z1 trivial) rfl (by simp) ?_ (by simp) (by simp);simp
  repeat(refine s_ ?_;simp)
end
section
open Go.Proofs
abbrev Cnd:=FuncId×List AV×Int
def Fe(x:Cnd):AV:= .agg [.fn (.func x.1) [] x.2.1,.i x.2.2]
def conds(c:Crd):List Cnd:=[(91,[.iptr (cCr c)],14),(92,[.iptr [.fn (.func 90) [] [.iptr (cCr c)]]],15),(93,[.iptr [.fn (.func 90) [] [.iptr (cCr c)]]],15),(94,[],3),(95,[],21)]
def Ji(c:Crd):PC prog 57 [encCr c] (λr=>r= .list ((conds c).map Fe)):=by
 refine pcB func57 results57 ntmps57 ?_;simp only[Qf];simp only[encCr];refine R0 (I8 tOk rfl ?_);simp;refine R0 (I8 tOk rfl ?_);simp;refine Ur 0 (ys:=cCr c) (by simp[cCr]) rfl ?_;simp;refine Ur 1 (ys:=[.fn (.func 90) [] [.iptr (cCr c)]]) (by simp[Q7,Qy]) rfl ?_;simp;repeat(refine s_ ?_;simp)
 simp[conds,Fe]
def D8(c:Crd):PC prog 58 [encCr c] (λr=>r= .fn (.func 96) [] [.iptr (cCr c)]):=by
 refine pcB func58 results58 ntmps58 ?_;simp only[Qf];simp only[encCr];repeat(refine s_ ?_;simp)
 rfl
def v0p{R W:Nat}{c:Crd}(h:WfC R W c){k:Nat}{a:Att}(ha:c.atts[k]?=some a):∀x∈conds c,x.2.1.all AV.pure=true/\PC prog x.1 (([.iptr (cAt a),pvP (U4 c.atts k)]++x.2.1).map AV.nrm) (λr=>r= .bool true):=by
 intro x hx;have hA:=h.get ha;have hl:=(zD.1 ha).1;have h0:c.atts[0]?=some c.atts[0]:=zG (by omega);have hB:=h.get h0;obtain⟨pv,z1⟩:∃pv,U4 c.atts k=pv:=⟨_,rfl⟩
 rw[z1]at hA |-;simp only[conds,List.mem_cons,List.not_mem_nil,or_false]at hx;rcases hx with rfl|rfl|rfl|rfl|rfl
 ·exact⟨by simp,by have:=u0r c hA;cases pv<;>simpa[pvP]using this⟩
 ·exact⟨by simp,by have:=j0e c hA h.r1 h.r2 h0 hB.rd;cases pv<;>simpa[pvP]using this⟩
 ·exact⟨by simp,by have:=g0b c hA h.w1 h.w2 h0 hB.hvl;cases pv<;>simpa[pvP]using this⟩
 ·exact⟨by simp,by have:=k0s hA h.w2;cases pv<;>simpa[pvP]using this⟩
 exact⟨by simp,by have:=k07 hA h.w2;cases pv<;>simpa[pvP]using this⟩
def x0z{l:List Att}{k:Nat}{a:Att}(h:l[k]?=some a):U4 l (k+1)=some a:=h
def x0e (c:Crd) (hl:c.atts.length<=1000000) (l:Nat) {z8:Nat} {sl':List (Nat×AV)} {ps:List Tmp} {asg body:Code} (zf:ps.length=2) (zg:(ps.all λp=>decide (p<z8))=true)
  (Inv:Nat->List AObj->Prop) (Done:Code->List AObj->Prop) (H0:List AObj)
  (hI:∀k H,Inv k H->H[l]?=some (.lp true none z8 sl' ps asg body))
  (za:∀k a H,c.atts[k]?=some a->Inv k H->H0.length<=H.length->AWP prog z8 H.length asg (O7 (AWP prog z8 H.length body (Gy l (λjm K2=>(jm=none/\Inv (k+1) (K2.set l (.lp true none z8 sl' ps asg body))/\H.length<=K2.length)\/∃c,jm=some c/\Done c (K2.set l (.lp false (some c) z8 sl' ps asg body))))) (λ_ _=>False)) ⟨Ry sl' ps [.iptr (cAt a),pvP (U4 c.atts k)],H.set l .dead⟩)
  (h0:Inv 0 H0):FC prog 96 [.yld l,.iptr (cCr c)] H0 (λ_ H'=>(Inv c.atts.length H'/\H0.length<=H'.length)\/∃c,Done c H'):=by
 refine fcB func96 results96 ntmps96 ?_;simp only[Qf];simp only[cCr];repeat(refine s_ ?_;simp)
 refine Qk (Qg (sl':=[(0,.yld l),(1,.iptr (cCr c)),(3,pvP (U4 c.atts 0)),(7,.i c.atts.length),(8,.i (0:Nat))]) ?_ (by simp[cCr,U4,pvP]));refine Qp (P:=prog) (F:=λ(u:Nat×List AObj)=>⟨[(0,.yld l),(1,.iptr (cCr c)),(3,pvP (U4 c.atts u.1)),(7,.i c.atts.length),(8,.i u.1)],u.2⟩)
  (λu=>u.1<=c.atts.length/\Inv u.1 u.2/\H0.length<=u.2.length) (λu=>c.atts.length - u.1) ?_ (0,H0) ⟨yO _,h0,zR _⟩
 rintro⟨k,J⟩ ⟨hk,hv,hJ⟩ ih;simp only at hk hv hJ ih |-;repeat(refine s_ ?_;simp)
 refine Qb rfl (λzh=>?_) (λzi=>?_)
 ·have z1:k<c.atts.length:=by simpa using zh
  have hw:=wz k (by omega);have ha:c.atts[k]?=some c.atts[k]:=zG z1;have zd:=λH'=>ih (k+1,H');simp only[x0z ha]at zd;have zb:=za k _ J ha hv hJ;generalize c.atts[k]=a at *
  have hg:(c.atts.map encAt)[k]?=some (encAt a):=by rw[zU,ha];rfl
  have hh:∀q,(c.atts.map encAt)[k]'q=encAt a:=λq=>(yR q).2 hg;have zc:cCr c=[.i c.next,.list (c.atts.map encAt),.i c.dur]:=rfl;cases hpv:U4 c.atts k with
  |none=>
   rw[hpv]at zb;simp only[pvP]at zb |-;repeat(refine s_ ?_;simp[z1,hg,hh,zc])
   refine Eu rfl rfl (q:=l) rfl rfl (hI _ _ hv) zf zg rfl (λjm K2=>(jm=none/\Inv (k+1) (K2.set l (.lp true none z8 sl' ps asg body))/\J.length<=K2.length)\/∃c,jm=some c/\Done c (K2.set l (.lp false (some c) z8 sl' ps asg body))) zb ?_;rintro jm K2 (⟨rfl,hK,zj⟩|⟨c',rfl,hD⟩)
   ·simp;repeat(refine s_ ?_;simp)
    refine Qh rfl ?_;simp;repeat(refine s_ ?_;simp[z1,hg,hh,zc,hw])
    refine Qg (sl':=[(0,.yld l),(1,.iptr (cCr c)),(3,pvP (some a)),(7,.i c.atts.length),(8,.i (k+1:Nat))]) ?_ (by simp[pvP,cAt,cCr]);exact zd _ ⟨by omega,hK,by simp;omega⟩ (by omega)
   simp;repeat(refine s_ ?_;simp)
   refine Qh rfl ?_;simp;repeat(refine s_ ?_;simp)
   exact .inr ⟨c',hD⟩
  |some b=>
   rw[hpv]at zb;simp only[pvP,cAt]at zb |-;repeat(refine s_ ?_;simp[z1,hg,hh,zc])
   refine Eu rfl rfl (q:=l) rfl rfl (hI _ _ hv) zf zg rfl (λjm K2=>(jm=none/\Inv (k+1) (K2.set l (.lp true none z8 sl' ps asg body))/\J.length<=K2.length)\/∃c,jm=some c/\Done c (K2.set l (.lp false (some c) z8 sl' ps asg body))) zb ?_;rintro jm K2 (⟨rfl,hK,zj⟩|⟨c',rfl,hD⟩)
   ·simp;repeat(refine s_ ?_;simp)
    refine Qh rfl ?_;simp;repeat(refine s_ ?_;simp[z1,hg,hh,zc,hw])
    refine Qg (sl':=[(0,.yld l),(1,.iptr (cCr c)),(3,pvP (some a)),(7,.i c.atts.length),(8,.i (k+1:Nat))]) ?_ (by simp[pvP,cAt,cCr]);exact zd _ ⟨by omega,hK,by simp;omega⟩ (by omega)
   simp;repeat(refine s_ ?_;simp)
   refine Qh rfl ?_;simp;repeat(refine s_ ?_;simp)
   exact .inr ⟨c',hD⟩
 have ze:k=c.atts.length:=by simp at zi;omega
 subst ze;repeat(refine s_ ?_;simp)
 exact .inl ⟨hv,hJ⟩
def Ug{R W:Nat}{c:Crd}(h:WfC R W c):PC prog 30 [encCr c] (λr=>r= .i 0):=by
 refine pcB func30 results30 ntmps30 ?_;simp only[Qf];have n1:=h.nx1;have n2:=h.nx2;have d1:=h.du1;have d2:=h.du2;have hlen:=h.len;have hw:IntKind.i64.wrap (c.next - 1)=c.next - 1:=wrap_i64 _ (by omega) (by omega);have zb:¬(256:Int)<c.atts.length:=by omega
 simp only[encCr];repeat(refine s_ ?_;simp)
 refine pcL (Ta c.next 1 1099511627776 n1 n2) ?_;simp[hw];refine pcL (Ta c.dur 0 (c.next - 1) d1 (by omega)) ?_;simp[hw];repeat(refine s_ ?_;simp)
 refine Qh rfl ?_;simp;repeat(refine s_ ?_;simp[zb])
 refine Qh rfl ?_;simp;repeat(refine s_ ?_;simp)
 refine pcL (Ji c) ?_;simp;repeat(refine s_ ?_;simp)
 refine pcL (D8 c) ?_;simp;repeat(refine s_ ?_;simp)
 have zh:=λk a ha=>v0p h (k:=k) (a:=a) ha;have zj:(conds c).length=5:=rfl;obtain⟨L,hL⟩:∃L,L=conds c:=⟨_,rfl⟩
 rw[<-hL]at zh zj |-;rw[show(AV.list (L.map Fe))=AV.list (L.map Fe) from rfl];refine Ez rfl (Rf:=λ_ H'=>H'[1]?=some (.vars [.i 0])/\3<H'.length/\∃sl' zi a' b',H'[3]?=some (.lp true none 48 sl' zi a' b')) ?_ ?_
 ·simp;refine Fy λH1 zc=>?_;have f1:=congrArg (λh:List AObj=>h[1]?) zc;have f2:=congrArg (λh:List AObj=>h[2]?) zc;have f3:=congrArg (λh:List AObj=>h[3]?) zc;have zm:3<H1.length:=by rw[zc];simp
  simp at f1 f2 f3;clear zc;refine FC.mono (x0e c (by omega) 3 (by rfl) (by rfl) (λ_ K=>K[1]?=some (.vars [.i 0])/\K[2]?=some (.vars [.list (L.map Fe)])/\K[3]? =H1[3]?) (λ_ _=>False) H1 (λ_ K h=>h.2.2.trans f3) ?_ ⟨f1,f2,rfl⟩) ?_
  ·rintro k a K ha ⟨k1,k2,k3⟩ hK;have h8:=k3.trans f3;simp[Ry];have z1:=Qa (j:=3) (by decide) k1 .dead;have z2:=Qa (j:=3) (by decide) k2 .dead;have z3:=Qe h8 .dead;have zl:(K.set 3 .dead).length=K.length:=by simp
   have za:=zh k a ha;clear k1 k2 k3 h8;generalize K.set 3 .dead=Z at *
   cases hpv:U4 c.atts k with
   |none=>
    rw[hpv]at za;simp only[pvP]at za |-;repeat(refine s_ ?_;simp[z2])
    refine Qk (Qg (sl':=[(4,.iptr (cAt a)),(5,.nilp),(33,.list (L.map Fe)),(34,.i L.length),(35,.i (0:Nat))]) ?_ (by simp));refine Qp (P:=prog) (F:=λ(u:Nat×List AObj)=>⟨[(4,.iptr (cAt a)),(5,.nilp),(33,.list (L.map Fe)),(34,.i L.length),(35,.i u.1)],u.2⟩)
     (λu=>u.1<=L.length/\u.2[1]?=some (.vars [.i 0])/\u.2[2]?=some (.vars [.list (L.map Fe)])/\u.2[3]?=some .dead/\K.length<=u.2.length) (λu=>L.length - u.1) ?_ (0,Z) ⟨yO _,z1,z2,z3,vh zl.symm⟩
    clear z1 z2 z3 zl;clear Z;rintro⟨j,Z⟩ ⟨hj,z1,z2,z3,zl⟩ ih;simp only at hj z1 z2 z3 zl ih |-;repeat(refine s_ ?_;simp)
    refine Qb rfl (λzf=>?_) (λzk=>?_)
    ·have z8:j<L.length:=by simpa using zf
     have zg:=wz j (by omega);obtain⟨zd,ze⟩:=za L[j] (yB z8);have hg:(L.map Fe)[j]?=some (Fe L[j]):=by simp[z8]
     have hh:∀q,(L.map Fe)[j]'q=Fe L[j]:=λq=>by simp
     generalize L[j]=x at *
     obtain⟨xf,xc,xe⟩:=x;simp only[Fe]at hg hh zd ze;repeat(refine s_ ?_;simp[z8,hg,hh])
     have w1:=Qc z1 [AObj.vars [.fn (.func xf) [] xc,.i xe]];have w2:=Qc z2 [AObj.vars [.fn (.func xf) [] xc,.i xe]];have w3:=Qc z3 [AObj.vars [.fn (.func xf) [] xc,.i xe]];have wl:K.length<=(Z++[AObj.vars [.fn (.func xf) [] xc,.i xe]]).length:=by simp;omega
     generalize Z++[AObj.vars [.fn (.func xf) [] xc,.i xe]]=Y at *;refine Ui rfl rfl (by simp[zd]) ze rfl ?_
     rintro _ rfl;simp;repeat(refine s_ ?_;simp)
     refine Qh rfl ?_;simp;repeat(refine s_ ?_;simp[zg])
     refine Qg (sl':=[(4,.iptr (cAt a)),(5,.nilp),(33,.list (L.map Fe)),(34,.i L.length),(35,.i (j+1:Nat))]) ?_ (by simp);exact ih (j+1,Y) ⟨by omega,w1,w2,w3,wl⟩ (by simp only;omega)
    repeat(refine s_ ?_;simp)
    exact⟨z3,rfl,⟨z1,z2,by first|(rw[zJ (Ql z3),f3])|(have:=Ql z3;simp[f3];omega)⟩,by simpa using zl⟩
   |some b=>
    rw[hpv]at za;simp only[pvP]at za |-;repeat(refine s_ ?_;simp[z2])
    refine Qk (Qg (sl':=[(4,.iptr (cAt a)),(5,.iptr (cAt b)),(33,.list (L.map Fe)),(34,.i L.length),(35,.i (0:Nat))]) ?_ (by simp));refine Qp (P:=prog) (F:=λ(u:Nat×List AObj)=>⟨[(4,.iptr (cAt a)),(5,.iptr (cAt b)),(33,.list (L.map Fe)),(34,.i L.length),(35,.i u.1)],u.2⟩)
     (λu=>u.1<=L.length/\u.2[1]?=some (.vars [.i 0])/\u.2[2]?=some (.vars [.list (L.map Fe)])/\u.2[3]?=some .dead/\K.length<=u.2.length) (λu=>L.length - u.1) ?_ (0,Z) ⟨yO _,z1,z2,z3,vh zl.symm⟩
    clear z1 z2 z3 zl;clear Z;rintro⟨j,Z⟩ ⟨hj,z1,z2,z3,zl⟩ ih;simp only at hj z1 z2 z3 zl ih |-;repeat(refine s_ ?_;simp)
    refine Qb rfl (λzf=>?_) (λzk=>?_)
    ·have z8:j<L.length:=by simpa using zf
     have zg:=wz j (by omega);obtain⟨zd,ze⟩:=za L[j] (yB z8);have hg:(L.map Fe)[j]?=some (Fe L[j]):=by simp[z8]
     have hh:∀q,(L.map Fe)[j]'q=Fe L[j]:=λq=>by simp
     generalize L[j]=x at *
     obtain⟨xf,xc,xe⟩:=x;simp only[Fe]at hg hh zd ze;repeat(refine s_ ?_;simp[z8,hg,hh])
     have w1:=Qc z1 [AObj.vars [.fn (.func xf) [] xc,.i xe]];have w2:=Qc z2 [AObj.vars [.fn (.func xf) [] xc,.i xe]];have w3:=Qc z3 [AObj.vars [.fn (.func xf) [] xc,.i xe]];have wl:K.length<=(Z++[AObj.vars [.fn (.func xf) [] xc,.i xe]]).length:=by simp;omega
     generalize Z++[AObj.vars [.fn (.func xf) [] xc,.i xe]]=Y at *;refine Ui rfl rfl (by simp[zd]) ze rfl ?_
     rintro _ rfl;simp;repeat(refine s_ ?_;simp)
     refine Qh rfl ?_;simp;repeat(refine s_ ?_;simp[zg])
     refine Qg (sl':=[(4,.iptr (cAt a)),(5,.iptr (cAt b)),(33,.list (L.map Fe)),(34,.i L.length),(35,.i (j+1:Nat))]) ?_ (by simp);exact ih (j+1,Y) ⟨by omega,w1,w2,w3,wl⟩ (by simp only;omega)
    repeat(refine s_ ?_;simp)
    exact⟨z3,rfl,⟨z1,z2,by first|(rw[zJ (Ql z3),f3])|(have:=Ql z3;simp[f3];omega)⟩,by simpa using zl⟩
  rintro r H' (⟨⟨h1,h2,h3⟩,h4⟩|⟨_,hf⟩)
  ·exact⟨h1,by omega,_,_,_,_,h3.trans f3⟩
  exact hf.elim
 rintro r H' ⟨h1,h2,sl',zi,a',b',h3⟩;refine⟨_,_,_,_,_,_,_,h3,?_⟩;simp;have y1:=Qa (j:=3) (by decide) h1 .dead;generalize H'.set 3 .dead=Y at *
 have y2:=Qe y1 (.vars [.i 0]);repeat(refine s_ ?_;simp[y1,y2])
end
section
open Go.Proofs
def Bo{α:Type}{l:List α}{j:Nat}{x:α}(h:l[j]?=some x):l.set j x=l:=by
 refine List.ext_getElem? λi=>?_;by_cases e:j=i
 ·subst e;rw[h,zJ (zD.1 h).1]
 rw[zI e]
def Y5(a:Att)(O B:Nat):AV:= .agg [.i a.num,.list (a.rds.map avRdr),.sl O 2 0 a.ops.length,.sl B 1 0 a.hv.length]
def f0r(c:Crd)(k:Nat)(b A O B:Nat)(rows:List AV)(G:List AObj):Prop:=
 (c.atts.length<=k->rows=c.atts.map encAt)/\∀a,c.atts[k]?=some a->rows=(c.atts.map encAt).set k (Y5 a O B)/\b<=O/\b<=B/\O≠A/\B≠A/\O≠B/\G[O]?=some (.arr 58 2 (a.ops.map avOpr))/\G[B]?=some (.arr 4 1 (a.hv.map AV.bool))
def g0q(c:Crd):Prop:=c.atts.length<=1000/\∀a∈c.atts,a.rds.length<=1000/\a.ops.length<=1000/\a.hv.length<=1000
def WfC.short{R W:Nat}{c:Crd}(h:WfC R W c):g0q c:=⟨by have:=h.len;omega,λa ha=>by
 obtain⟨i,hi,rfl⟩:=wx ha;have hA:=h.get (zG hi);have:=hA.rd;have:=hA.hvl;have:=hA.opl;have:=h.r2;have:=h.w2;omega⟩
def Jg(c:Crd)(hs:g0q c)(k:Nat)(H:List AObj):FC prog 32 [encCr c] H (λr H'=>HX H H'/\∃A O B rows,r= .agg [.i c.next,.sl A 4 0 c.atts.length,.i c.dur]/\H.length<=A/\H'[A]?=some (.va 93 4 rows)/\f0r c k H.length A O B rows H'):=by
 refine fcB func32 results32 ntmps32 ?_;simp only[Qf];have hn:=hs.1;simp only[encCr];repeat(refine s_ ?_;simp)
 refine Tg rfl rfl (by simp) (f0k c.atts (by omega)) rfl ?_;rintro _ rfl;simp;repeat(refine s_ ?_;simp)
 refine Q1 λG hG=>?_;have g0:HX H G:=by rw[hG];exact(HX.refl H).app _
 have gx:G[H.length]?=some (.vars [.i c.next,.sl (H.length+2) 4 0 c.atts.length,.i c.dur]):=by rw[hG,zF (by omega)];simp
 have gy:G[H.length+1]?=some (.vars [.i 0,.nils,.i 0]):=by rw[hG,zF (by omega)];simp
 have ga:G[H.length+2]?=some (.arr 93 4 (c.atts.map encAt)):=by rw[hG,zF (by omega)];simp
 clear hG;refine Hw (H.length+2) ga ?_;have g1:=g0.set (i:=H.length+2) (by omega) (.va 93 4 (c.atts.map encAt));have g2:=Qa (j:=H.length+2) (by omega) gx (.va 93 4 (c.atts.map encAt));have g3:=Qa (j:=H.length+2) (by omega) gy (.va 93 4 (c.atts.map encAt));have g4:=Qe ga (.va 93 4 (c.atts.map encAt));generalize G.set (H.length+2) (.va 93 4 (c.atts.map encAt))=E at *;clear g0 gx gy ga;refine Qk (Qg (sl':=[(1,.vptr H.length 0),(2,.vptr (H.length+1) 0),(10,.sl (H.length+2) 4 0 c.atts.length),(11,.i c.atts.length),(12,.i (0:Nat))]) ?_ (by simp))
 refine Qp (P:=prog) (F:=λ(u:Nat×Nat×Nat×List AV×List AObj)=>⟨[(1,.vptr H.length 0),(2,.vptr (H.length+1) 0),(10,.sl (H.length+2) 4 0 c.atts.length),(11,.i c.atts.length),(12,.i u.1)],u.2.2.2.2⟩)
  (λu=>u.1<=c.atts.length/\HX H u.2.2.2.2/\u.2.2.2.2[H.length]?=some (.vars [.i c.next,.sl (H.length+2) 4 0 c.atts.length,.i c.dur])/\u.2.2.2.2[H.length+1]?=some (.vars [.i 0,.nils,.i 0])/\u.2.2.2.2[H.length+2]?=some (.va 93 4 u.2.2.2.1)/\
   (u.1<=k->u.2.2.2.1=c.atts.map encAt)/\(k<u.1->f0r c k (H.length+3) (H.length+2) u.2.1 u.2.2.1 u.2.2.2.1 u.2.2.2.2)) (λu=>c.atts.length - u.1) ?_ (0,0,0,c.atts.map encAt,E) ⟨yO _,g1,g2,g3,g4,λ_=>rfl,λh=>by omega⟩
 clear g1 g2 g3 g4;clear E;rintro⟨j,O,B,rows,G⟩ ⟨hj,g1,g2,g3,g4,g5,g6⟩ ih;simp only at hj g1 g2 g3 g4 g5 g6 ih |-;repeat(refine s_ ?_;simp)
 refine Qb rfl (λzg=>?_) (λzh=>?_)
 ·have z8:j<c.atts.length:=by simpa using zg
  have hw:=wz j (by omega);have ha:c.atts[j]?=some c.atts[j]:=zG z8;obtain⟨s1,s2,s3⟩:=hs.2 _ (yB z8);have ze:(c.atts.map encAt)[j]?=some (encAt c.atts[j]):=by rw[zU,ha];rfl
  have z1:rows[j]?=some (encAt c.atts[j]):=by
   by_cases hjk:j<=k
   ·rw[g5 hjk];exact ze
   have zi:k<c.atts.length:=by omega
   rw[((g6 (by omega)).2 _ (zG zi)).1,zI (by omega)];exact ze
  generalize c.atts[j]=a at *
  have za:∀q,rows[j]'q=encAt a:=λq=>(yR q).2 z1;have zb:j<rows.length:=(zD.1 z1).1;repeat(refine s_ ?_;simp[z8,g4,z1,za,zb])
  have e1:=g1.app [AObj.vars [.i a.num,.list (a.rds.map avRdr),.list (a.ops.map avOpr),.list (a.hv.map AV.bool)]];have e2:=Qc g2 [AObj.vars [.i a.num,.list (a.rds.map avRdr),.list (a.ops.map avOpr),.list (a.hv.map AV.bool)]];have e3:=Qc g3 [AObj.vars [.i a.num,.list (a.rds.map avRdr),.list (a.ops.map avOpr),.list (a.hv.map AV.bool)]];have e4:=Qc g4 [AObj.vars [.i a.num,.list (a.rds.map avRdr),.list (a.ops.map avOpr),.list (a.hv.map AV.bool)]];have e5:(G++[AObj.vars [.i a.num,.list (a.rds.map avRdr),.list (a.ops.map avOpr),.list (a.hv.map AV.bool)]])[G.length]?=some (.vars [.i a.num,.list (a.rds.map avRdr),.list (a.ops.map avOpr),.list (a.hv.map AV.bool)]):=by simp
  have e6:k<j->f0r c k (H.length+3) (H.length+2) O B rows (G++[AObj.vars [.i a.num,.list (a.rds.map avRdr),.list (a.ops.map avOpr),.list (a.hv.map AV.bool)]]):=λh=>⟨(g6 h).1,λb hb=>by
   obtain⟨h1,h2,h3,h4,h5,h6,h7,h8⟩:=(g6 h).2 b hb;exact⟨h1,h2,h3,h4,h5,h6,Qc h7 _,Qc h8 _⟩⟩
  clear g1 g2 g3 g4 g6;generalize G++[AObj.vars [.i a.num,.list (a.rds.map avRdr),.list (a.ops.map avOpr),.list (a.hv.map AV.bool)]]=E at *
  have zc:rows.set j (.agg [.i a.num,.list (a.rds.map avRdr),.list (a.ops.map avOpr),.list (a.hv.map AV.bool)])=rows:=Bo z1;have zf:E.set (H.length+2) (.va 93 4 rows)=E:=Bo e4;refine Wh tOk mixed [4,6] (.val 0 (.val 2 (.val 3 (.two 1 (.one 4 (.val 5 (.one 6 (.done)))) 4 (.val 1 (.val 5 (.one 6 (.done)))))))) rfl (by kernel_rfl) ?_;simp[e2,e5];by_cases hjk:j=k
  ·refine⟨?_,?_⟩
   ·refine Qd rfl rfl (g0g a (by omega) (by omega) (by omega) E) rfl ?_;rintro r Y ⟨hx,O',B',rfl,o1,o2,o3,o4⟩;have y2:=hx _ _ e2;have y4:=hx _ _ e4;simp[y2,y4,z8,z1,za,zb];repeat(refine s_ ?_;simp[hw])
    refine Qg (sl':=[(1,.vptr H.length 0),(2,.vptr (H.length+1) 0),(10,.sl (H.length+2) 4 0 c.atts.length),(11,.i c.atts.length),(12,.i (j+1:Nat))]) ?_ (by simp);refine ih (j+1,O',B',rows.set j (Y5 a O' B'),_) ⟨by simp only;omega,(e1.trans hx).set (by omega) _,Qa (by omega) y2 _,Qa (by omega) (hx _ _ e3) _,Qe y4 _,λh=>by simp only at h;omega,λ_=>⟨λh=>by omega,λb hb=>?_⟩⟩ (by simp only;omega);rw[<-hjk,ha]at hb;obtain rfl:=Option.some.inj hb;have zj:=e1.len;have zk:=Ql e4;refine⟨by rw[g5 (by omega),<-hjk],by simp only;omega,by simp only;omega,by simp only;omega,by simp only;omega,by simp only;omega,Qa (by omega) o3 _,Qa (by omega) o4 _⟩
   refine Qd rfl rfl (g0g a (by omega) (by omega) (by omega) E) rfl ?_;rintro r Y ⟨hx,O',B',rfl,o1,o2,o3,o4⟩;have y2:=hx _ _ e2;have y4:=hx _ _ e4;simp[y2,y4,z8,z1,za,zb];repeat(refine s_ ?_;simp[hw])
   refine Qg (sl':=[(1,.vptr H.length 0),(2,.vptr (H.length+1) 0),(10,.sl (H.length+2) 4 0 c.atts.length),(11,.i c.atts.length),(12,.i (j+1:Nat))]) ?_ (by simp);refine ih (j+1,O',B',rows.set j (Y5 a O' B'),_) ⟨by simp only;omega,(e1.trans hx).set (by omega) _,Qa (by omega) y2 _,Qa (by omega) (hx _ _ e3) _,Qe y4 _,λh=>by simp only at h;omega,λ_=>⟨λh=>by omega,λb hb=>?_⟩⟩ (by simp only;omega);rw[<-hjk,ha]at hb;obtain rfl:=Option.some.inj hb;have zj:=e1.len;have zk:=Ql e4;refine⟨by rw[g5 (by omega),<-hjk],by simp only;omega,by simp only;omega,by simp only;omega,by simp only;omega,by simp only;omega,Qa (by omega) o3 _,Qa (by omega) o4 _⟩
  refine⟨?_,?_⟩
  ·refine pcL (z06 a (by omega) (by omega) (by omega)) ?_;simp[e2,e4,z8,z1,za,zb,zc,zf];repeat(refine s_ ?_;simp[hw])
   refine Qg (sl':=[(1,.vptr H.length 0),(2,.vptr (H.length+1) 0),(10,.sl (H.length+2) 4 0 c.atts.length),(11,.i c.atts.length),(12,.i (j+1:Nat))]) ?_ (by simp);refine ih (j+1,O,B,rows,E) ⟨by simp only;omega,e1,e2,e3,e4,λh=>g5 (by simp only at h;omega),λh=>e6 (by simp only at h;omega)⟩ (by simp only;omega)
  refine pcL (z06 a (by omega) (by omega) (by omega)) ?_;simp[e2,e4,z8,z1,za,zb,zc,zf];repeat(refine s_ ?_;simp[hw])
  refine Qg (sl':=[(1,.vptr H.length 0),(2,.vptr (H.length+1) 0),(10,.sl (H.length+2) 4 0 c.atts.length),(11,.i c.atts.length),(12,.i (j+1:Nat))]) ?_ (by simp);refine ih (j+1,O,B,rows,E) ⟨by simp only;omega,e1,e2,e3,e4,λh=>g5 (by simp only at h;omega),λh=>e6 (by simp only at h;omega)⟩ (by simp only;omega)
 have zd:j=c.atts.length:=by simp at zh;omega
 subst zd;have q3:=Qe g3 (.vars [.i c.next,.sl (H.length+2) 4 0 c.atts.length,.i c.dur]);repeat(refine s_ ?_;simp[g2,g3,q3])
 refine⟨g1.set (by omega) _,O,B,rows,g4,?_⟩;have hA:=Ql g4;by_cases hk:k<c.atts.length
 ·refine⟨λh=>by omega,λa ha=>?_⟩;obtain⟨h1,h2,h3,h4,h5,h6,h7,h8⟩:=(g6 hk).2 a ha;exact⟨h1,by omega,by omega,h4,h5,h6,Qa (by omega) h7 _,Qa (by omega) h8 _⟩
 refine⟨λh=>g5 h,λa ha=>?_⟩;have:=(zD.1 ha).1;omega
end
section
open Go.Proofs
def pvE(A:Nat):Nat->AV
 |0=> .nilp
 |k+1=> .ept A 4 k 0
def Lz(A k:Nat):pvE A k= .nilp\/∃i,pvE A k= .ept A 4 i 0:=by
 cases k
 ·exact .inl rfl
 exact .inr ⟨_,rfl⟩
def Vm(H:List AObj)(nx du:Int)(A n:Nat):FC prog 58 [.agg [.i nx,.sl A 4 0 n,.i du]] H (λr H'=>r= .fn (.func 96) [] [.vptr H.length 0]/\H'=H++[.vars [.i nx,.sl A 4 0 n,.i du]]):=by refine fcB func58 results58 ntmps58 ?_;simp only[Qf];repeat(refine s_ ?_;simp)
def v05 (nx du:Int) (A n Bx:Nat) (hl:n<=1000000) (l:Nat) {z8:Nat} {sl':List (Nat×AV)} {ps:List Tmp} {asg body:Code} (zf:ps.length=2) (zg:(ps.all λp=>decide (p<z8))=true)
  (Inv:Nat->List AObj->Prop) (Done:Code->List AObj->Prop) (H0:List AObj)
  (hI:∀k H,Inv k H->H[l]?=some (.lp true none z8 sl' ps asg body)) (hB:∀k H,Inv k H->H[Bx]?=some (.vars [.i nx,.sl A 4 0 n,.i du]))
  (za:∀k H,k<n->Inv k H->H0.length<=H.length->AWP prog z8 H.length asg (O7 (AWP prog z8 H.length body (Gy l (λjm K2=>(jm=none/\Inv (k+1) (K2.set l (.lp true none z8 sl' ps asg body))/\H.length<=K2.length)\/∃c,jm=some c/\Done c (K2.set l (.lp false (some c) z8 sl' ps asg body))))) (λ_ _=>False)) ⟨Ry sl' ps [.ept A 4 k 0,pvE A k],H.set l .dead⟩)
  (h0:Inv 0 H0):FC prog 96 [.yld l,.vptr Bx 0] H0 (λ_ H'=>(Inv n H'/\H0.length<=H'.length)\/∃c,Done c H'):=by
 refine fcB func96 results96 ntmps96 ?_;simp only[Qf];have zh:=hB _ _ h0;repeat(refine s_ ?_;simp[zh])
 refine Qk (Qg (sl':=[(0,.yld l),(1,.vptr Bx 0),(3,pvE A 0),(7,.i n),(8,.i (0:Nat))]) ?_ (by simp[pvE]));refine Qp (P:=prog) (F:=λ(u:Nat×List AObj)=>⟨[(0,.yld l),(1,.vptr Bx 0),(3,pvE A u.1),(7,.i n),(8,.i u.1)],u.2⟩)
  (λu=>u.1<=n/\Inv u.1 u.2/\H0.length<=u.2.length) (λu=>n - u.1) ?_ (0,H0) ⟨yO _,h0,zR _⟩
 rintro⟨k,J⟩ ⟨hk,hv,hJ⟩ ih;simp only at hk hv hJ ih |-;have hb:=hB _ _ hv;repeat(refine s_ ?_;simp)
 refine Qb rfl (λzi=>?_) (λzj=>?_)
 ·have z1:k<n:=by simpa using zi
  have hw:=wz k (by omega);have zc:=λH'=>ih (k+1,H');have zb:=za k J z1 hv hJ;have zk:∀q,pvE A (q+1)= .ept A 4 q 0:=λ_=>rfl;simp only[zk]at zc;rcases Lz A k with hp|⟨i,hp⟩
  ·rw[hp]at zb |-;repeat(refine s_ ?_;simp[z1,hb])
   refine Eu rfl rfl (q:=l) rfl rfl (hI _ _ hv) zf zg rfl (λjm K2=>(jm=none/\Inv (k+1) (K2.set l (.lp true none z8 sl' ps asg body))/\J.length<=K2.length)\/∃c,jm=some c/\Done c (K2.set l (.lp false (some c) z8 sl' ps asg body))) zb ?_;rintro jm K2 (⟨rfl,hK,zl⟩|⟨c',rfl,hD⟩)
   ·have zd:=hB _ _ hK;simp;repeat(refine s_ ?_;simp)
    refine Qh rfl ?_;simp;repeat(refine s_ ?_;simp[z1,zd,hw])
    refine Qg (sl':=[(0,.yld l),(1,.vptr Bx 0),(3,.ept A 4 (k) 0),(7,.i n),(8,.i (k+1:Nat))]) ?_ (by simp);exact zc _ ⟨by omega,hK,by simp;omega⟩ (by omega)
   simp;repeat(refine s_ ?_;simp)
   refine Qh rfl ?_;simp;repeat(refine s_ ?_;simp)
   exact .inr ⟨c',hD⟩
  rw[hp]at zb |-;repeat(refine s_ ?_;simp[z1,hb])
  refine Eu rfl rfl (q:=l) rfl rfl (hI _ _ hv) zf zg rfl (λjm K2=>(jm=none/\Inv (k+1) (K2.set l (.lp true none z8 sl' ps asg body))/\J.length<=K2.length)\/∃c,jm=some c/\Done c (K2.set l (.lp false (some c) z8 sl' ps asg body))) zb ?_;rintro jm K2 (⟨rfl,hK,zl⟩|⟨c',rfl,hD⟩)
  ·have zd:=hB _ _ hK;simp;repeat(refine s_ ?_;simp)
   refine Qh rfl ?_;simp;repeat(refine s_ ?_;simp[z1,zd,hw])
   refine Qg (sl':=[(0,.yld l),(1,.vptr Bx 0),(3,.ept A 4 (k) 0),(7,.i n),(8,.i (k+1:Nat))]) ?_ (by simp);exact zc _ ⟨by omega,hK,by simp;omega⟩ (by omega)
  simp;repeat(refine s_ ?_;simp)
  refine Qh rfl ?_;simp;repeat(refine s_ ?_;simp)
  exact .inr ⟨c',hD⟩
 have ze:k=n:=by simp at zj;omega
 subst ze;repeat(refine s_ ?_;simp)
 exact .inl ⟨hv,hJ⟩
end
section
open Go.Proofs
def V2(c:Crd)(hs:c.atts.length<=1000)(nx du m:Int)(A:Nat)(rows:List AV)(H:List AObj)(hA:H[A]?=some (.va 93 4 rows))(zb:∀(i:Nat) (a:Att),c.atts[i]?=some a->∃x y z:AV,rows[i]?=some (AV.agg [.i a.num,x,y,z])):
  FC prog 34 [.agg [.i nx,.sl A 4 0 c.atts.length,.i du],.i m] H (λr H'=>HX H H'/\((∃k a,c.atts[k]?=some a/\a.num=m/\r= .tup [.ept A 4 k 0,pvE A k])\/((∀a∈c.atts,a.num≠m)/\r= .tup [.nilp,.nilp]))):=by
 refine fcB func34 results34 ntmps34 ?_;simp only[Qf];repeat(refine s_ ?_;simp)
 refine Qd rfl rfl (Vm _ nx du A c.atts.length) rfl ?_;rintro r H' ⟨rfl,rfl⟩;simp;repeat(refine s_ ?_;simp)
 refine Ez rfl (Rf:=λ_ H'=>HX H H'/\H.length+5<H'.length/\(((∃sl' z8 a' b',H'[H.length+5]?=some (.lp true none 20 sl' z8 a' b'))/\H'[H.length+2]?=some (.vars [.nilp])/\H'[H.length+3]?=some (.vars [.nilp])/\∀a∈c.atts,a.num≠m)\/
  ((∃sl' z8 a' b',H'[H.length+5]?=some (.lp false (some Code.ret) 20 sl' z8 a' b'))/\∃k a,c.atts[k]?=some a/\a.num=m/\H'[H.length+2]?=some (.vars [.ept A 4 k 0])/\H'[H.length+3]?=some (.vars [pvE A k])))) ?_ ?_
 ·simp;refine Fy λH1 za=>?_;have q0:HX H H1:=by rw[za];exact(HX.refl H).app _
  have f1:=congrArg (λh:List AObj=>h[H.length+1]?) za;have f2:=congrArg (λh:List AObj=>h[H.length+2]?) za;have f3:=congrArg (λh:List AObj=>h[H.length+3]?) za;have f4:=congrArg (λh:List AObj=>h[H.length+4]?) za;have f5:=congrArg (λh:List AObj=>h[H.length+5]?) za;simp at f1 f2 f3 f4 f5;clear za;refine FC.mono (v05 nx du A c.atts.length (H.length+4) (by omega) (H.length+5) (by rfl) (by rfl)
   (λk K=>HX H K/\K[H.length+1]?=some (.vars [.i m])/\K[H.length+2]?=some (.vars [.nilp])/\K[H.length+3]?=some (.vars [.nilp])/\K[H.length+4]?=some (.vars [.i nx,.sl A 4 0 c.atts.length,.i du])/\K[H.length+5]? =H1[H.length+5]? /\∀i a,i<k->c.atts[i]?=some a->a.num≠m)
   (λcc K=>cc=Code.ret/\HX H K/\(∃sl' z8 a' b',K[H.length+5]?=some (.lp false (some Code.ret) 20 sl' z8 a' b'))/\∃k a,c.atts[k]?=some a/\a.num=m/\K[H.length+2]?=some (.vars [.ept A 4 k 0])/\K[H.length+3]?=some (.vars [pvE A k]))
   H1 (λk K h=>h.2.2.2.2.2.1.trans f5) (λk K h=>h.2.2.2.2.1) ?_ ⟨q0,f1,f2,f3,f4,rfl,λi a h=>by omega⟩) ?_
  ·rintro k K hk ⟨k0,k1,k2,k3,k4,k5,k6⟩ hK;have h8:=k5.trans f5;simp[Ry];have z0:=k0.set (i:=H.length+5) (by omega) .dead;have z1:=Qa (j:=H.length+5) (by omega) k1 .dead;have z2:=Qa (j:=H.length+5) (by omega) k2 .dead;have z3:=Qa (j:=H.length+5) (by omega) k3 .dead;have z4:=Qa (j:=H.length+5) (by omega) k4 .dead;have z5:=Qe h8 .dead;have zl:(K.set (H.length+5) .dead).length=K.length:=by simp
   clear k0 k1 k2 k3 k4 k5;generalize K.set (H.length+5) .dead=Z at *
   have ha:c.atts[k]?=some c.atts[k]:=zG hk;obtain⟨x,y,z,hr⟩:=zb k _ ha;generalize c.atts[k]=a at *
   have zc:∀q,rows[k]'q= .agg [.i a.num,x,y,z]:=λq=>(yR q).2 hr;have zd:k<rows.length:=(zD.1 hr).1;have zA:=z0 _ _ hA;rcases Lz A k with hp|⟨i,hp⟩
   ·rw[hp];repeat(refine s_ ?_;simp[z1,zA,hr,zc,zd])
    refine Qw tOk mixed [] (.val 0 (.val 1 (.val 2 (.val 3 (.val 4 (.val 5 (.done))))))) rfl (by kernel_rfl) ?_;simp[z1,zA,hr,zc,zd];have l2:=Ql z2;have l3:=Ql z3;have hl:=Ql z5;refine Qb rfl (λhm=>?_) (λhm=>?_)
    ·repeat(refine s_ ?_;simp[z2,z3])
     exact⟨by simp[zW,z5],.inr ⟨_,rfl,rfl,((z0.set (by omega) _).set (by omega) _).set (by omega) _,⟨_,_,_,_,zJ (by simpa using hl)⟩,k,a,ha,by simpa using hm,by simp[zW,l2],by simp[zW,l3,hp]⟩⟩
    repeat(refine s_ ?_;simp)
    refine⟨z5,.inl ⟨rfl,⟨z0.set (by omega) _,by simp[zW,z1],by simp[zW,z2],by simp[zW,z3],by simp[zW,z4],by rw[zJ hl,f5],λi b hi hb=>?_⟩,by simp[zl]⟩⟩;by_cases e:i=k
    ·subst e;rw[ha]at hb;obtain rfl:=Option.some.inj hb;simpa using hm
    exact k6 i b (by omega) hb
   rw[hp];repeat(refine s_ ?_;simp[z1,zA,hr,zc,zd])
   refine Qw tOk mixed [] (.val 0 (.val 1 (.val 2 (.val 3 (.val 4 (.val 5 (.done))))))) rfl (by kernel_rfl) ?_;simp[z1,zA,hr,zc,zd];have l2:=Ql z2;have l3:=Ql z3;have hl:=Ql z5;refine Qb rfl (λhm=>?_) (λhm=>?_)
   ·repeat(refine s_ ?_;simp[z2,z3])
    exact⟨by simp[zW,z5],.inr ⟨_,rfl,rfl,((z0.set (by omega) _).set (by omega) _).set (by omega) _,⟨_,_,_,_,zJ (by simpa using hl)⟩,k,a,ha,by simpa using hm,by simp[zW,l2],by simp[zW,l3,hp]⟩⟩
   repeat(refine s_ ?_;simp)
   refine⟨z5,.inl ⟨rfl,⟨z0.set (by omega) _,by simp[zW,z1],by simp[zW,z2],by simp[zW,z3],by simp[zW,z4],by rw[zJ hl,f5],λi b hi hb=>?_⟩,by simp[zl]⟩⟩;by_cases e:i=k
   ·subst e;rw[ha]at hb;obtain rfl:=Option.some.inj hb;simpa using hm
   exact k6 i b (by omega) hb
  rintro r H' (⟨⟨h0,h1,h2,h3,h4,h5,h6⟩,h7⟩|⟨cc,rfl,h0,⟨sl',z8,a',b',h1⟩,h2⟩)
  ·exact⟨h0,Ql (h5.trans f5),.inl ⟨⟨_,_,_,_,h5.trans f5⟩,h2,h3,λa ha=>by obtain⟨i,hi,rfl⟩:=wx ha;exact h6 i _ hi (zG hi)⟩⟩
  exact⟨h0,Ql h1,.inr ⟨⟨_,_,_,_,h1⟩,h2⟩⟩
 rintro r H' ⟨h0,hl,⟨⟨sl',z8,a',b',h1⟩,h2,h3,h4⟩|⟨⟨sl',z8,a',b',h1⟩,k,a,ha,hm,h2,h3⟩⟩
 ·refine⟨_,_,_,_,_,_,_,(by simp;exact h1),?_⟩;simp;have y0:=h0.set (i:=H.length+5) (by omega) .dead;have y2:=Qa (j:=H.length+5) (by omega) h2 .dead;have y3:=Qa (j:=H.length+5) (by omega) h3 .dead;generalize H'.set (H.length+5) .dead=Y at *
  have y2s:=Qe y2 (.vars [.nilp]);have y3s:=Qe (Qa (j:=H.length+2) (i:=H.length+3) (by omega) y3 (.vars [.nilp])) (.vars [.nilp]);have y2t:=Qa (j:=H.length+3) (i:=H.length+2) (by omega) y2s (.vars [.nilp]);repeat(refine s_ ?_;simp[y2,y3,y2s,y3s,y2t])
  exact⟨(y0.set (by omega) _).set (by omega) _,h4⟩
 refine⟨_,_,_,_,_,_,_,(by simp;exact h1),?_⟩;simp;have y0:=h0.set (i:=H.length+5) (by omega) .dead;have y2:=Qa (j:=H.length+5) (by omega) h2 .dead;have y3:=Qa (j:=H.length+5) (by omega) h3 .dead;generalize H'.set (H.length+5) .dead=Y at *
 repeat(refine s_ ?_;simp[y2,y3])
 exact⟨y0,k,a,ha,hm,rfl,rfl⟩
end
section
open Go.Proofs
def f0c(c:Crd)(hs:c.atts.length<=1000)(m:Int):PC prog 34 [encCr c,.i m] (λr=>(∃(k:Nat) (a:Att),c.atts[k]?=some a/\a.num=m/\r= .tup [.iptr (cAt a),pvP (U4 c.atts k)])\/((∀a∈c.atts,a.num≠m)/\r= .tup [.nilp,.nilp])):=by
 refine pcB func34 results34 ntmps34 ?_;simp only[Qf];simp only[encCr];repeat(refine s_ ?_;simp)
 refine pcL (D8 c) ?_;simp;repeat(refine s_ ?_;simp)
 refine Ez rfl (Rf:=λ_ H'=>4<H'.length/\(((∃sl' z8 a' b',H'[4]?=some (.lp true none 20 sl' z8 a' b'))/\H'[2]?=some (.vars [.nilp])/\H'[3]?=some (.vars [.nilp])/\∀a∈c.atts,a.num≠m)\/
  ((∃sl' z8 a' b',H'[4]?=some (.lp false (some Code.ret) 20 sl' z8 a' b'))/\∃k a,c.atts[k]?=some a/\a.num=m/\H'[2]?=some (.vars [.iptr (cAt a)])/\H'[3]?=some (.vars [pvP (U4 c.atts k)])))) ?_ ?_
 ·simp;refine Fy λH1 za=>?_;have f1:=congrArg (λh:List AObj=>h[1]?) za;have f2:=congrArg (λh:List AObj=>h[2]?) za;have f3:=congrArg (λh:List AObj=>h[3]?) za;have f5:=congrArg (λh:List AObj=>h[4]?) za;simp at f1 f2 f3 f5;clear za;refine FC.mono (x0e c (by omega) 4 (by rfl) (by rfl)
   (λk K=>K[1]?=some (.vars [.i m])/\K[2]?=some (.vars [.nilp])/\K[3]?=some (.vars [.nilp])/\K[4]? =H1[4]? /\∀i a,i<k->c.atts[i]?=some a->a.num≠m)
   (λcc K=>cc=Code.ret/\(∃sl' z8 a' b',K[4]?=some (.lp false (some Code.ret) 20 sl' z8 a' b'))/\∃k a,c.atts[k]?=some a/\a.num=m/\K[2]?=some (.vars [.iptr (cAt a)])/\K[3]?=some (.vars [pvP (U4 c.atts k)]))
   H1 (λk K h=>h.2.2.2.1.trans f5) ?_ ⟨f1,f2,f3,rfl,λi a h=>by omega⟩) ?_
  ·rintro k a K ha ⟨k1,k2,k3,k5,k6⟩ hK;have h8:=k5.trans f5;simp[Ry];have z1:=Qa (j:=4) (by omega) k1 .dead;have z2:=Qa (j:=4) (by omega) k2 .dead;have z3:=Qa (j:=4) (by omega) k3 .dead;have z5:=Qe h8 .dead;have zl:(K.set 4 .dead).length=K.length:=by simp
   clear k1 k2 k3 k5;generalize K.set 4 .dead=Z at *
   cases hp:U4 c.atts k with
   |none=>
    simp only[pvP];repeat(refine s_ ?_;simp[z1,cAt])
    refine Qw tOk mixed [] (.val 0 (.val 1 (.val 2 (.val 3 (.val 4 (.val 5 (.done))))))) rfl (by kernel_rfl) ?_;simp[z1,cAt];have l2:=Ql z2;have l3:=Ql z3;have hl:=Ql z5;refine Qb rfl (λhm=>?_) (λhm=>?_)
    ·repeat(refine s_ ?_;simp[z2,z3])
     exact⟨by simp[zW,z5],.inr ⟨_,rfl,rfl,⟨_,_,_,_,zJ (by simpa using hl)⟩,k,a,ha,by simpa using hm,by simp[zW,l2,cAt],by simp[zW,l3,hp,pvP,cAt]⟩⟩
    repeat(refine s_ ?_;simp)
    refine⟨z5,.inl ⟨rfl,⟨by simp[zW,z1],by simp[zW,z2],by simp[zW,z3],by rw[zJ hl,f5],λi b hi hb=>?_⟩,by simp[zl]⟩⟩;by_cases e:i=k
    ·subst e;rw[ha]at hb;obtain rfl:=Option.some.inj hb;simpa using hm
    exact k6 i b (by omega) hb
   |some b=>
    simp only[pvP];repeat(refine s_ ?_;simp[z1,cAt])
    refine Qw tOk mixed [] (.val 0 (.val 1 (.val 2 (.val 3 (.val 4 (.val 5 (.done))))))) rfl (by kernel_rfl) ?_;simp[z1,cAt];have l2:=Ql z2;have l3:=Ql z3;have hl:=Ql z5;refine Qb rfl (λhm=>?_) (λhm=>?_)
    ·repeat(refine s_ ?_;simp[z2,z3])
     exact⟨by simp[zW,z5],.inr ⟨_,rfl,rfl,⟨_,_,_,_,zJ (by simpa using hl)⟩,k,a,ha,by simpa using hm,by simp[zW,l2,cAt],by simp[zW,l3,hp,pvP,cAt]⟩⟩
    repeat(refine s_ ?_;simp)
    refine⟨z5,.inl ⟨rfl,⟨by simp[zW,z1],by simp[zW,z2],by simp[zW,z3],by rw[zJ hl,f5],λi b hi hb=>?_⟩,by simp[zl]⟩⟩;by_cases e:i=k
    ·subst e;rw[ha]at hb;obtain rfl:=Option.some.inj hb;simpa using hm
    exact k6 i b (by omega) hb
  rintro r H' (⟨⟨h1,h2,h3,h5,h6⟩,h7⟩|⟨cc,rfl,⟨sl',z8,a',b',h1⟩,h2⟩)
  ·exact⟨Ql (h5.trans f5),.inl ⟨⟨_,_,_,_,h5.trans f5⟩,h2,h3,λa ha=>by obtain⟨i,hi,rfl⟩:=wx ha;exact h6 i _ hi (zG hi)⟩⟩
  exact⟨Ql h1,.inr ⟨⟨_,_,_,_,h1⟩,h2⟩⟩
 rintro r H' ⟨hl,⟨⟨sl',z8,a',b',h1⟩,h2,h3,h4⟩|⟨⟨sl',z8,a',b',h1⟩,k,a,ha,hm,h2,h3⟩⟩
 ·refine⟨_,_,_,_,_,_,_,(by simp;exact h1),?_⟩;simp;have y2:=Qa (j:=4) (by omega) h2 .dead;have y3:=Qa (j:=4) (by omega) h3 .dead;generalize H'.set 4 .dead=Y at *
  have y2s:=Qe y2 (.vars [.nilp]);have y3s:=Qe (Qa (j:=2) (i:=3) (by omega) y3 (.vars [.nilp])) (.vars [.nilp]);have y2t:=Qa (j:=3) (i:=2) (by omega) y2s (.vars [.nilp]);repeat(refine s_ ?_;simp[y2,y3,y2s,y3s,y2t])
  exact h4
 refine⟨_,_,_,_,_,_,_,(by simp;exact h1),?_⟩;simp;have y2:=Qa (j:=4) (by omega) h2 .dead;have y3:=Qa (j:=4) (by omega) h3 .dead;generalize H'.set 4 .dead=Y at *
 cases hp:U4 c.atts k with
 |none=>
  rw[hp]at y3;simp only[pvP]at y3;repeat(refine s_ ?_;simp[y2,y3])
  exact⟨k,a,ha,hm,rfl,by rw[hp];rfl⟩
 |some b=>
  rw[hp]at y3;simp only[pvP]at y3;repeat(refine s_ ?_;simp[y2,y3])
  exact⟨k,a,ha,hm,rfl,by rw[hp];rfl⟩
end
section
open Go.Proofs
def f0i(l:List Bool)(hl:l.length<=1000):PC prog 97 [.list (l.map AV.bool),.bool false] (λr=>∃i:Int,r= .i i/\(0<=i↔false∈l)):=by
 refine pcB func97 results97 ntmps97 ?_;simp only[Qf];repeat(refine s_ ?_;simp)
 refine E9 l.length (λj=>∀(i:Nat) (hi:i<l.length),i<j->l[i]=true) (λj=>[(0,.list (l.map AV.bool)),(1,.bool false),(7,.i l.length),(8,.i j)]) (λ_=>[]) rfl (by simp) (by simp) (by simp) (by simp) (by simp) ?_;intro j hj hI ih;repeat(refine s_ ?_;simp)
 refine Qb rfl (λz8=>?_) (λza=>?_)
 ·have z1:j<l.length:=by simpa using z8
  have hw:=wz j (by omega);have key:l[j]=true\/l[j]=false:=by cases l[j]<;>simp
  have hm:=yB z1;rcases key with hv|hv
  ·repeat(refine s_ ?_;simp[z1,hv])
   refine Qh rfl ?_;simp;repeat(refine s_ ?_;simp[hw])
   refine Q8 _ (ih z1 (λi hi zc=>?_)) rfl (by simp) ?_ (by simp) (by simp)
   ·by_cases e:i=j
    ·subst e;exact hv
    exact hI i hi (by omega)
   simp
  rw[hv]at hm;repeat(refine s_ ?_;simp[z1,hv])
  refine Qh rfl ?_;simp;repeat(refine s_ ?_;simp)
  exact hm
 have zb:j=l.length:=by simp at za;omega
 repeat(refine s_ ?_;simp)
 intro h;obtain⟨i,hi,he⟩:=wx h;rw[hI i hi (by omega)]at he;cases he
def g0a(l:List Bool)(hl:l.length<=1000):PC prog 60 [.list (l.map AV.bool),.bool false] (λr=>r= .bool (decide (false∈l))):=by
 refine pcB func60 results60 ntmps60 ?_;simp only[Qf];repeat(refine s_ ?_;simp)
 refine Ui rfl rfl (by simp) (f0i l hl) rfl ?_;rintro _ ⟨i,rfl,hi⟩;simp;repeat(refine s_ ?_;simp)
 simp[hi]
def Fp(a:Att)(hl:a.hv.length<=1000):PC prog 37 [encAt a] (λr=>r= .bool (!decide (false∈a.hv))):=by
 refine pcB func37 results37 ntmps37 ?_;simp only[Qf];simp only[encAt];repeat(refine s_ ?_;simp)
 refine pcL (g0a a.hv hl) ?_;simp;repeat(refine s_ ?_;simp)
def f0u{R W:Nat}{c:Crd}(h:WfC R W c)(hl:c.atts.length<256)(hn:c.next<1099511627776):PC prog 31 [encCr c,.i R,.i W] (λr=>r= .i 0):=by
 refine pcB func31 results31 ntmps31 ?_;simp only[Qf];have r1:=h.r1;have r2:=h.r2;have w1:=h.w1;have w2:=h.w2;have z8:¬(c.atts.length:Int)=256:=by omega
 have z1:¬c.next=1099511627776:=by omega
 have h0:∀a,c.atts[0]?=some a->a.rds.length=R/\a.hv.length=W:=λa ha=>⟨(h.get ha).rd,(h.get ha).hvl⟩
 simp only[encCr];repeat(refine s_ ?_;simp)
 refine pcL (Ta R 1 8 (by omega) (by omega)) ?_;simp;refine pcL (Ta W 1 8 (by omega) (by omega)) ?_;simp;repeat(refine s_ ?_;simp)
 refine Qh rfl ?_;simp;generalize c.atts=l at *
 cases l with
 |nil=>
  repeat(refine s_ ?_;simp[z8,z1])
  refine Qh rfl ?_;simp;repeat(refine s_ ?_;simp[z8,z1])
  refine Qh rfl ?_;simp;repeat(refine s_ ?_;simp[z8,z1])
  refine Qb rfl (λh=>by simp[z1]at h) (λ_=>?_);repeat ((refine s_ ?_;simp))
 |cons a l=>
  obtain⟨k1,k2⟩:=h0 a rfl;repeat(refine s_ ?_;simp[z8,z1,k1,k2])
  refine Qh rfl ?_;simp;repeat(refine s_ ?_;simp)
  refine Qb rfl (λh=>by simp at z8 h;omega) (λ_=>?_);repeat(refine s_ ?_;simp[z8,z1])
  refine Qb rfl (λh=>by simp[z1]at h) (λ_=>?_);repeat(refine s_ ?_;simp)
def q0v(n:Int)(h1:0<=n)(h2:n<1099511627776):PC prog 85 [.i n] (λr=>r=encCr ⟨n+1,[],n⟩):=by refine pcB func85 results85 ntmps85 ?_;simp only[Qf];have hw:IntKind.i64.wrap (n+1)=n+1:=wrap_i64 _ (by omega) (by omega);repeat(refine s_ ?_;simp[hw])
def Vp:PC prog 12 [] (λr=>r=encCr ⟨1,[],0⟩):=by refine pcB func12 results12 ntmps12 ?_;simp only[Qf];repeat(refine s_ ?_;simp)
def y03{R W:Nat}{c:Crd}(h:WfC R W c)(n:Int)(h1:0<=n)(h2:n<1099511627776):PC prog 47 [encCr c,.i n] (λr=>r= .tup [encCr ⟨n+1,[],n⟩,.i 0]):=by
 refine pcB func47 results47 ntmps47 ?_;simp only[Qf];have cC:=Ug h;have cR:=q0v n h1 h2;simp only[encCr]at cC cR |-;repeat(refine s_ ?_;simp)
 refine pcL (cC) ?_;simp;repeat(refine s_ ?_;simp)
 refine Qh rfl ?_;simp;repeat(refine s_ ?_;simp)
 refine pcL (Ta n 0 1099511627775 h1 (by omega)) ?_;simp;repeat(refine s_ ?_;simp)
 refine Qh rfl ?_;simp;repeat(refine s_ ?_;simp)
 refine pcL (cR) ?_;simp;repeat(refine s_ ?_;simp)
def Jd{R W:Nat}{c:Crd}(h:WfC R W c):PC prog 15 [encCr c] (λr=>(∀a,c.atts[0]?=some a->false∉a.hv->r= .tup [avSnp ⟨a.num,a.rds,a.ops⟩,.bool true,.i 0])/\((∀a,c.atts[0]?=some a->false∈a.hv)->r= .tup [avSnp ⟨0,[],[]⟩,.bool false,.i 0])):=by
 refine pcB func15 results15 ntmps15 ?_;simp only[Qf];have cC:=Ug h;have hs:=h.short;simp only[encCr]at cC |-;repeat(refine s_ ?_;simp)
 refine pcL (cC) ?_;simp;repeat(refine s_ ?_;simp)
 refine Qh rfl ?_;simp;repeat(refine s_ ?_;simp)
 obtain⟨z8,z1⟩:=hs;clear h cC;generalize c.atts=l at *
 cases l with
 |nil=>
  simp;refine Wp rfl rfl ?_;simp;repeat(refine s_ ?_;simp)
  refine Qh rfl ?_;simp;repeat ((refine s_ ?_;simp))
 |cons a l=>
  obtain⟨k1,k2,k3⟩:=z1 a (by simp);have cK:=Fp a k3;have cO:=z06 a (by omega) (by omega) (by omega);simp only[encAt]at cK cO;simp;refine pcL (cK) ?_;simp;by_cases hf:false∈a.hv
  ·simp[hf];repeat(refine s_ ?_;simp)
   refine Qh rfl ?_;simp;repeat(refine s_ ?_;simp)
  simp[hf];repeat(refine s_ ?_;simp)
  refine Qh rfl ?_;simp;repeat(refine s_ ?_;simp)
  refine pcL (cO) ?_;simp;repeat(refine s_ ?_;simp)
end
section
open Go.Proofs
def j0m(i q:Nat)(xs:List AV)(a:Att):(encAt a).fz i q xs=encAt a:=by simp[encAt,Si]
def Jb(i q:Nat)(xs:List AV)(l:List Att):(l.map encAt).map (AV.fz i q xs)=l.map encAt:=by rw[uF];exact vW λa _=>j0m i q xs a
def K4(l:List Att):(l.map encAt).all (λx=>x.cells.all AV.pure)=true:=by rw[zV];intro x hx;obtain⟨a,_,rfl⟩:=xg.1 hx;simp[encAt]
variable {P:Program} [Env P]
def Im {nt k0:Nat} {cd:Code} {Q:Exit->AS->Prop} {sl:List (Nat×AV)} {Z:List AObj} (z8:∀i q xs,sl.map (λp=>(p.1,AV.fz i q xs p.2))=sl) (S O B t:Nat) (a:Att) (l1 l2:List Att) (nx du:Int) (n:Nat) (hn:n=(l1++a::l2).length)
  (hS:Z[S]?=some (.va 93 4 (l1.map encAt++Y5 a O B::l2.map encAt))) (hO:Z[O]?=some (.arr 58 2 (a.ops.map avOpr))) (hB:Z[B]?=some (.arr 4 1 (a.hv.map AV.bool))) (ht:Z[t]?=some (.vars [.i nx,.sl S 4 0 n,.i du])) (zb:O≠B)
  (h:∀Z',Z'[t]?=some (.vars [.i nx,.list ((l1++a::l2).map encAt),.i du])->(∀j o,Z[j]?=some o->j≠O->j≠B->j≠S->j≠t->Z'[j]?=some o)->AWP P nt k0 cd Q ⟨sl,Z'⟩):AWP P nt k0 cd Q ⟨sl,Z⟩:=by
 have zc:S≠O:=λe=>by subst e;rw[hS]at hO;simp at hO
 have za:S≠B:=λe=>by subst e;rw[hS]at hB;simp at hB
 have z1:t≠S:=λe=>by subst e;rw[hS]at ht;simp at ht
 have zd:t≠O:=λe=>by subst e;rw[hO]at ht;simp at ht
 have ze:t≠B:=λe=>by subst e;rw[hB]at ht;simp at ht
 have r1:(l1.map encAt++Y5 a O B::l2.map encAt).map (AV.fz O 2 (a.ops.map avOpr))=l1.map encAt++ .agg [.i a.num,.list (a.rds.map avRdr),.list (a.ops.map avOpr),.sl B 1 0 a.hv.length]::l2.map encAt:=by
  have e:(Y5 a O B).fz O 2 (a.ops.map avOpr)= .agg [.i a.num,.list (a.rds.map avRdr),.list (a.ops.map avOpr),.sl B 1 0 a.hv.length]:=by rw[Y5,Si];simp only[z_,yM,Tv,Yf,Od];rw[if_pos ⟨trivial,trivial,by simp⟩,if_neg (λh=>zb h.1.symm),xB,zY (by simp)]
  rw[xG,z_,Jb,Jb,e]
 have r2:(l1.map encAt++ .agg [.i a.num,.list (a.rds.map avRdr),.list (a.ops.map avOpr),.sl B 1 0 a.hv.length]::l2.map encAt).map (AV.fz B 1 (a.hv.map AV.bool))=(l1++a::l2).map encAt:=by
  have e:(AV.agg [.i a.num,.list (a.rds.map avRdr),.list (a.ops.map avOpr),.sl B 1 0 a.hv.length]).fz B 1 (a.hv.map AV.bool)=encAt a:=by rw[Si];simp only[z_,yM,Tv,Yf,Od];rw[if_pos ⟨trivial,trivial,by simp⟩,xB,zY (by simp)];try simp
  rw[xG,z_,Jb,Jb,e,xG,z_]
 refine Ov O hO S hS zc rfl ?_;rw[z8,AObj.fz,r1];have q1:((Z.set O .dead).set S (.va 93 4 (l1.map encAt++ .agg [.i a.num,.list (a.rds.map avRdr),.list (a.ops.map avOpr),.sl B 1 0 a.hv.length]::l2.map encAt)))[S]? =_:=Qe (Qa zc.symm hS _) _;have q2:=Qa (j:=S) za (Qa (j:=O) zb hB .dead) (.va 93 4 (l1.map encAt++ .agg [.i a.num,.list (a.rds.map avRdr),.list (a.ops.map avOpr),.sl B 1 0 a.hv.length]::l2.map encAt));have q3:=Qa (j:=S) z1.symm (Qa (j:=O) zd.symm ht .dead) (.va 93 4 (l1.map encAt++ .agg [.i a.num,.list (a.rds.map avRdr),.list (a.ops.map avOpr),.sl B 1 0 a.hv.length]::l2.map encAt));refine Ov B q2 S q1 za rfl ?_;rw[z8,AObj.fz,r2];have s1:=Qe (Qa (j:=B) za.symm q1 .dead) (.va 93 4 ((l1++a::l2).map encAt));have s2:=Qa (j:=S) z1.symm (Qa (j:=B) ze.symm q3 .dead) (.va 93 4 ((l1++a::l2).map encAt));refine Il S s1 (K4 _) ?_;have u1:=Qe s1 (.arr 93 4 ((l1++a::l2).map encAt));have u2:=Qa (j:=S) z1.symm s2 (.arr 93 4 ((l1++a::l2).map encAt));refine Ey S u1 t u2 ?_;rw[z8];refine h _ ?_ λj o hj h1 h2 h3 h4=>?_
 ·rw[Qe (Qa (j:=S) z1.symm u2 .dead)];simp only[z_,yM,Tv,Od];rw[if_pos ⟨trivial,trivial,by simp[hn]⟩,hn,xB,zY (by simp)]
 refine Qa h4.symm (Qa h3.symm (Qa h3.symm (Qa h3.symm (Qa h2.symm (Qa h3.symm (Qa h1.symm hj _) _) _) _) _) _) _
end
section
open Go.Proofs
def Gv{R W:Nat}{c:Crd}(h:WfC R W c)(hl:c.atts.length<256)(hn:c.next<1099511627776)(rs:List Rdr)(hr:rs.length=R):PC prog 13 [encCr c,.list (rs.map avRdr),.i W] (λr=>r= .tup [encCr (Ex c rs W),.i c.next,.i 0]):=by
 refine pcB func13 results13 ntmps13 ?_;simp only[Qf];have cC:=Ug h;have cF:=f0u h hl hn;have cR:=Xz rs (by have:=h.r2;omega);have w1:=h.w1;have w2:=h.w2;have r2:=h.r2;have hW:=λH=>Jg c h.short c.atts.length H;have zb:IntKind.i64.wrap (c.next+1)=c.next+1:=wrap_i64 _ (by have:=h.nx1;omega) (by omega);simp only[encCr]at cC cF hW |-;repeat(refine s_ ?_;simp)
 refine pcL (cC) ?_;simp;repeat(refine s_ ?_;simp)
 refine Qh rfl ?_;simp;repeat(refine s_ ?_;simp[hr])
 refine pcL (cF) ?_;simp[hr];repeat(refine s_ ?_;simp)
 refine Qh rfl ?_;simp;repeat(refine s_ ?_;simp)
 refine Qd rfl rfl (hW _) rfl ?_;rintro r Y ⟨hx,A,O,B,rows,rfl,hA,hY,hR⟩;have ze:=hR.1 (zR _);subst ze;simp;have y0:=hx 0 _ rfl;have y1:=hx 1 _ rfl;have zf:=Ql hY;have zg:=Ql y1;have zh:2<=A:=by simpa using hA
 clear hx hR;repeat(refine s_ ?_;simp[y0,y1])
 refine Q1 λE hE=>?_;have e0:E[0]?=some (.vars [.i c.next,.list (c.atts.map encAt),.i c.dur]):=by rw[hE];exact Qc y0 _
 have e1:E[1]?=some (.vars [.i 0,.nils,.i 0]):=by rw[hE];exact Qc y1 _
 have e2:E[Y.length]?=some (.vars [.i c.next,.sl A 4 0 c.atts.length,.i c.dur]):=by rw[hE];simp
 have eA:E[A]?=some (.va 93 4 (c.atts.map encAt)):=by rw[hE];exact Qc hY _
 have zi:E.length=Y.length+1:=by rw[hE];simp
 clear hE;have gA:=λL=>Qc eA L;have zc:A≠Y.length:=by omega
 have za:Y.length<E.length:=by omega
 have zd:A<E.length:=by omega
 have g2:E[Y.length]= .vars [.i c.next,.sl A 4 0 c.atts.length,.i c.dur]:=(yR za).2 e2;refine Wh tOk mixed [12,14] (.val 0 (.val 1 (.val 2 (.val 3 (.val 4 (.val 6 (.val 8 (.three 5 (.two 7 (.one 9 (.val 10 (.one 11 (.one 12 (.val 13 (.one 14 (.done))))))) 9 (.one 7 (.val 10 (.one 11 (.one 12 (.val 13 (.one 14 (.done)))))))) 7 (.two 5 (.one 9 (.val 10 (.one 11 (.one 12 (.val 13 (.one 14 (.done))))))) 9 (.one 5 (.val 10 (.one 11 (.one 12 (.val 13 (.one 14 (.done)))))))) 9 (.two 5 (.one 7 (.val 10 (.one 11 (.one 12 (.val 13 (.one 14 (.done))))))) 7 (.one 5 (.val 10 (.one 11 (.one 12 (.val 13 (.one 14 (.done)))))))))))))))) rfl (by kernel_rfl) ?_;simp[e0,e2]
 repeat' first
  |refine⟨?_,?_⟩
  |(refine pcL cR ?_;simp[e0,e2])
  |(refine Yj tOk rfl rfl rfl T59 rfl T58 rfl rfl rfl (n:=W) (by simp;omega) (by unfold maxLen;omega) (.agg [.nils,.nils]) rfl ?_;simp[e0,e2])
  |(refine Yj tOk rfl rfl rfl T91 rfl T4 rfl rfl rfl (n:=W) (by simp;omega) (by unfold maxLen;omega) (.bool false) rfl ?_;simp[e0,e2])
 ·refine Wi tOk rfl rfl T30 rfl T93 rfl (by decide) (by decide) rfl rfl rfl ?_;simp[En,Uk,gA];refine⟨by simp[Em]<;>omega,?_⟩;simp[yH,zW,za,zd,zc,g2];refine Qo (sl':=[(3,.vptr 0 0),(6,.vptr 1 0),(10,.vptr Y.length 0)]) ?_ (by simp);refine Q1 λZ hZ=>?_;have z0:Z[0]?=some (.vars [.i c.next,.list (c.atts.map encAt),.i c.dur]):=by rw[hZ];exact Qc (Qa (by omega) (Qa (by omega) e0 _) _) _
  have z1:Z[1]?=some (.vars [.i 0,.nils,.i 0]):=by rw[hZ];exact Qc (Qa (by omega) (Qa (by omega) e1 _) _) _
  have zN:Z[Y.length]?=some (.vars [.i c.next,.sl (E.length+3) 4 0 (c.atts.length+1),.i c.dur]):=by rw[hZ];exact Qc (Qe (Qa (by omega) e2 _) _) _
  have zO:Z[E.length]?=some (.arr 58 2 (zH W (.agg [.nils,.nils]))):=by rw[hZ,zF (by simp)];simp
  have zB:Z[(E.length+1)]?=some (.arr 4 1 (zH W (.bool false))):=by rw[hZ,zF (by simp)];simp
  have zS:Z[E.length+3]?=some (.va 93 4 (c.atts.map encAt++[Y5 ⟨c.next,rs,zH W Rv,zH W false⟩ (E.length) ((E.length+1))])):=by rw[hZ,zF (by simp)];simp[Y5]
  clear hZ;have z8:(zH W (AV.agg [.nils,.nils])).map AV.nrm=(zH W Rv).map avOpr:=by simp[Rv]
  refine T8 (E.length) zO ?_;rw[z8];have zO2:=Qe zO (.arr 58 2 ((zH W Rv).map avOpr));have zB2:=Qa (j:=E.length) (by omega) zB (.arr 58 2 ((zH W Rv).map avOpr));have zS2:=Qa (j:=E.length) (by omega) zS (.arr 58 2 ((zH W Rv).map avOpr));have zN2:=Qa (j:=E.length) (by omega) zN (.arr 58 2 ((zH W Rv).map avOpr));have z02:=Qa (j:=E.length) (by omega) z0 (.arr 58 2 ((zH W Rv).map avOpr));have z12:=Qa (j:=E.length) (by omega) z1 (.arr 58 2 ((zH W Rv).map avOpr));refine Im (by simp) (E.length+3) (E.length) ((E.length+1)) Y.length ⟨c.next,rs,zH W Rv,zH W false⟩ c.atts [] c.next c.dur (c.atts.length+1) (by simp) zS2 zO2 (by simpa using zB2) zN2 (by omega) λZ' x1 x2=>?_;have x3:=x2 0 _ z02 (by omega) (by omega) (by omega) (by omega);have x4:=x2 1 _ z12 (by omega) (by omega) (by omega) (by omega);clear zO zB zS zN z0 z1 zO2 zB2 zS2 zN2 z02 z12 x2;repeat(refine s_ ?_;simp[x1,x3,x4,zb])
  refine Q1 λV hV=>?_;have v0:V[0]?=some (.vars [.i c.next,.list (c.atts.map encAt),.i c.dur]):=by rw[hV];exact Qa (by omega) x3 _
  have v1:V[1]?=some (.vars [.i 0,.nils,.i 0]):=by rw[hV];exact Qa (by omega) x4 _
  have vN:V[Y.length]?=some (.vars [.i (c.next+1),.list ((Ex c rs W).atts.map encAt),.i c.dur]):=by rw[hV];have:=Ql x1;simp[zW,Ex];omega
  clear hV x1 x3 x4;clear Z';have v2:=Qe v1 (.vars [.i (c.next+1),.list ((Ex c rs W).atts.map encAt),.i c.dur]);have v3:=Qa (j:=1) (by omega) v0 (.vars [.i (c.next+1),.list ((Ex c rs W).atts.map encAt),.i c.dur]);refine Wh tOk mixed [3] (.val 0 (.val 1 (.two 2 (.one 3 (.val 4 (.val 5 (.done)))) 3 (.val 2 (.val 4 (.val 5 (.done))))))) rfl (by kernel_rfl) ?_;simp[v0,v1,vN,v2,v3];repeat(refine s_ ?_;simp[v2])
  exact⟨rfl,rfl⟩
 ·refine Wi tOk rfl rfl T30 rfl T93 rfl (by decide) (by decide) rfl rfl rfl ?_;simp[En,Uk,gA];refine⟨by simp[Em]<;>omega,?_⟩;simp[yH,zW,za,zd,zc,g2];refine Qo (sl':=[(3,.vptr 0 0),(6,.vptr 1 0),(10,.vptr Y.length 0)]) ?_ (by simp);refine Q1 λZ hZ=>?_;have z0:Z[0]?=some (.vars [.i c.next,.list (c.atts.map encAt),.i c.dur]):=by rw[hZ];exact Qc (Qa (by omega) (Qa (by omega) e0 _) _) _
  have z1:Z[1]?=some (.vars [.i 0,.nils,.i 0]):=by rw[hZ];exact Qc (Qa (by omega) (Qa (by omega) e1 _) _) _
  have zN:Z[Y.length]?=some (.vars [.i c.next,.sl (E.length+3) 4 0 (c.atts.length+1),.i c.dur]):=by rw[hZ];exact Qc (Qe (Qa (by omega) e2 _) _) _
  have zO:Z[(E.length+1)]?=some (.arr 58 2 (zH W (.agg [.nils,.nils]))):=by rw[hZ,zF (by simp)];simp
  have zB:Z[E.length]?=some (.arr 4 1 (zH W (.bool false))):=by rw[hZ,zF (by simp)];simp
  have zS:Z[E.length+3]?=some (.va 93 4 (c.atts.map encAt++[Y5 ⟨c.next,rs,zH W Rv,zH W false⟩ ((E.length+1)) (E.length)])):=by rw[hZ,zF (by simp)];simp[Y5]
  clear hZ;have z8:(zH W (AV.agg [.nils,.nils])).map AV.nrm=(zH W Rv).map avOpr:=by simp[Rv]
  refine T8 ((E.length+1)) zO ?_;rw[z8];have zO2:=Qe zO (.arr 58 2 ((zH W Rv).map avOpr));have zB2:=Qa (j:=(E.length+1)) (by omega) zB (.arr 58 2 ((zH W Rv).map avOpr));have zS2:=Qa (j:=(E.length+1)) (by omega) zS (.arr 58 2 ((zH W Rv).map avOpr));have zN2:=Qa (j:=(E.length+1)) (by omega) zN (.arr 58 2 ((zH W Rv).map avOpr));have z02:=Qa (j:=(E.length+1)) (by omega) z0 (.arr 58 2 ((zH W Rv).map avOpr));have z12:=Qa (j:=(E.length+1)) (by omega) z1 (.arr 58 2 ((zH W Rv).map avOpr));refine Im (by simp) (E.length+3) ((E.length+1)) (E.length) Y.length ⟨c.next,rs,zH W Rv,zH W false⟩ c.atts [] c.next c.dur (c.atts.length+1) (by simp) zS2 zO2 (by simpa using zB2) zN2 (by omega) λZ' x1 x2=>?_;have x3:=x2 0 _ z02 (by omega) (by omega) (by omega) (by omega);have x4:=x2 1 _ z12 (by omega) (by omega) (by omega) (by omega);clear zO zB zS zN z0 z1 zO2 zB2 zS2 zN2 z02 z12 x2;repeat(refine s_ ?_;simp[x1,x3,x4,zb])
  refine Q1 λV hV=>?_;have v0:V[0]?=some (.vars [.i c.next,.list (c.atts.map encAt),.i c.dur]):=by rw[hV];exact Qa (by omega) x3 _
  have v1:V[1]?=some (.vars [.i 0,.nils,.i 0]):=by rw[hV];exact Qa (by omega) x4 _
  have vN:V[Y.length]?=some (.vars [.i (c.next+1),.list ((Ex c rs W).atts.map encAt),.i c.dur]):=by rw[hV];have:=Ql x1;simp[zW,Ex];omega
  clear hV x1 x3 x4;clear Z';have v2:=Qe v1 (.vars [.i (c.next+1),.list ((Ex c rs W).atts.map encAt),.i c.dur]);have v3:=Qa (j:=1) (by omega) v0 (.vars [.i (c.next+1),.list ((Ex c rs W).atts.map encAt),.i c.dur]);refine Wh tOk mixed [3] (.val 0 (.val 1 (.two 2 (.one 3 (.val 4 (.val 5 (.done)))) 3 (.val 2 (.val 4 (.val 5 (.done))))))) rfl (by kernel_rfl) ?_;simp[v0,v1,vN,v2,v3];repeat(refine s_ ?_;simp[v2])
  exact⟨rfl,rfl⟩
 ·refine Wi tOk rfl rfl T30 rfl T93 rfl (by decide) (by decide) rfl rfl rfl ?_;simp[En,Uk,gA];refine⟨by simp[Em]<;>omega,?_⟩;simp[yH,zW,za,zd,zc,g2];refine Qo (sl':=[(3,.vptr 0 0),(6,.vptr 1 0),(10,.vptr Y.length 0)]) ?_ (by simp);refine Q1 λZ hZ=>?_;have z0:Z[0]?=some (.vars [.i c.next,.list (c.atts.map encAt),.i c.dur]):=by rw[hZ];exact Qc (Qa (by omega) (Qa (by omega) e0 _) _) _
  have z1:Z[1]?=some (.vars [.i 0,.nils,.i 0]):=by rw[hZ];exact Qc (Qa (by omega) (Qa (by omega) e1 _) _) _
  have zN:Z[Y.length]?=some (.vars [.i c.next,.sl (E.length+3) 4 0 (c.atts.length+1),.i c.dur]):=by rw[hZ];exact Qc (Qe (Qa (by omega) e2 _) _) _
  have zO:Z[E.length]?=some (.arr 58 2 (zH W (.agg [.nils,.nils]))):=by rw[hZ,zF (by simp)];simp
  have zB:Z[(E.length+1)]?=some (.arr 4 1 (zH W (.bool false))):=by rw[hZ,zF (by simp)];simp
  have zS:Z[E.length+3]?=some (.va 93 4 (c.atts.map encAt++[Y5 ⟨c.next,rs,zH W Rv,zH W false⟩ (E.length) ((E.length+1))])):=by rw[hZ,zF (by simp)];simp[Y5]
  clear hZ;have z8:(zH W (AV.agg [.nils,.nils])).map AV.nrm=(zH W Rv).map avOpr:=by simp[Rv]
  refine T8 (E.length) zO ?_;rw[z8];have zO2:=Qe zO (.arr 58 2 ((zH W Rv).map avOpr));have zB2:=Qa (j:=E.length) (by omega) zB (.arr 58 2 ((zH W Rv).map avOpr));have zS2:=Qa (j:=E.length) (by omega) zS (.arr 58 2 ((zH W Rv).map avOpr));have zN2:=Qa (j:=E.length) (by omega) zN (.arr 58 2 ((zH W Rv).map avOpr));have z02:=Qa (j:=E.length) (by omega) z0 (.arr 58 2 ((zH W Rv).map avOpr));have z12:=Qa (j:=E.length) (by omega) z1 (.arr 58 2 ((zH W Rv).map avOpr));refine Im (by simp) (E.length+3) (E.length) ((E.length+1)) Y.length ⟨c.next,rs,zH W Rv,zH W false⟩ c.atts [] c.next c.dur (c.atts.length+1) (by simp) zS2 zO2 (by simpa using zB2) zN2 (by omega) λZ' x1 x2=>?_;have x3:=x2 0 _ z02 (by omega) (by omega) (by omega) (by omega);have x4:=x2 1 _ z12 (by omega) (by omega) (by omega) (by omega);clear zO zB zS zN z0 z1 zO2 zB2 zS2 zN2 z02 z12 x2;repeat(refine s_ ?_;simp[x1,x3,x4,zb])
  refine Q1 λV hV=>?_;have v0:V[0]?=some (.vars [.i c.next,.list (c.atts.map encAt),.i c.dur]):=by rw[hV];exact Qa (by omega) x3 _
  have v1:V[1]?=some (.vars [.i 0,.nils,.i 0]):=by rw[hV];exact Qa (by omega) x4 _
  have vN:V[Y.length]?=some (.vars [.i (c.next+1),.list ((Ex c rs W).atts.map encAt),.i c.dur]):=by rw[hV];have:=Ql x1;simp[zW,Ex];omega
  clear hV x1 x3 x4;clear Z';have v2:=Qe v1 (.vars [.i (c.next+1),.list ((Ex c rs W).atts.map encAt),.i c.dur]);have v3:=Qa (j:=1) (by omega) v0 (.vars [.i (c.next+1),.list ((Ex c rs W).atts.map encAt),.i c.dur]);refine Wh tOk mixed [3] (.val 0 (.val 1 (.two 2 (.one 3 (.val 4 (.val 5 (.done)))) 3 (.val 2 (.val 4 (.val 5 (.done))))))) rfl (by kernel_rfl) ?_;simp[v0,v1,vN,v2,v3];repeat(refine s_ ?_;simp[v2])
  exact⟨rfl,rfl⟩
 ·refine Wi tOk rfl rfl T30 rfl T93 rfl (by decide) (by decide) rfl rfl rfl ?_;simp[En,Uk,gA];refine⟨by simp[Em]<;>omega,?_⟩;simp[yH,zW,za,zd,zc,g2];refine Qo (sl':=[(3,.vptr 0 0),(6,.vptr 1 0),(10,.vptr Y.length 0)]) ?_ (by simp);refine Q1 λZ hZ=>?_;have z0:Z[0]?=some (.vars [.i c.next,.list (c.atts.map encAt),.i c.dur]):=by rw[hZ];exact Qc (Qa (by omega) (Qa (by omega) e0 _) _) _
  have z1:Z[1]?=some (.vars [.i 0,.nils,.i 0]):=by rw[hZ];exact Qc (Qa (by omega) (Qa (by omega) e1 _) _) _
  have zN:Z[Y.length]?=some (.vars [.i c.next,.sl (E.length+3) 4 0 (c.atts.length+1),.i c.dur]):=by rw[hZ];exact Qc (Qe (Qa (by omega) e2 _) _) _
  have zO:Z[E.length]?=some (.arr 58 2 (zH W (.agg [.nils,.nils]))):=by rw[hZ,zF (by simp)];simp
  have zB:Z[(E.length+1)]?=some (.arr 4 1 (zH W (.bool false))):=by rw[hZ,zF (by simp)];simp
  have zS:Z[E.length+3]?=some (.va 93 4 (c.atts.map encAt++[Y5 ⟨c.next,rs,zH W Rv,zH W false⟩ (E.length) ((E.length+1))])):=by rw[hZ,zF (by simp)];simp[Y5]
  clear hZ;have z8:(zH W (AV.agg [.nils,.nils])).map AV.nrm=(zH W Rv).map avOpr:=by simp[Rv]
  refine T8 (E.length) zO ?_;rw[z8];have zO2:=Qe zO (.arr 58 2 ((zH W Rv).map avOpr));have zB2:=Qa (j:=E.length) (by omega) zB (.arr 58 2 ((zH W Rv).map avOpr));have zS2:=Qa (j:=E.length) (by omega) zS (.arr 58 2 ((zH W Rv).map avOpr));have zN2:=Qa (j:=E.length) (by omega) zN (.arr 58 2 ((zH W Rv).map avOpr));have z02:=Qa (j:=E.length) (by omega) z0 (.arr 58 2 ((zH W Rv).map avOpr));have z12:=Qa (j:=E.length) (by omega) z1 (.arr 58 2 ((zH W Rv).map avOpr));refine Im (by simp) (E.length+3) (E.length) ((E.length+1)) Y.length ⟨c.next,rs,zH W Rv,zH W false⟩ c.atts [] c.next c.dur (c.atts.length+1) (by simp) zS2 zO2 (by simpa using zB2) zN2 (by omega) λZ' x1 x2=>?_;have x3:=x2 0 _ z02 (by omega) (by omega) (by omega) (by omega);have x4:=x2 1 _ z12 (by omega) (by omega) (by omega) (by omega);clear zO zB zS zN z0 z1 zO2 zB2 zS2 zN2 z02 z12 x2;repeat(refine s_ ?_;simp[x1,x3,x4,zb])
  refine Q1 λV hV=>?_;have v0:V[0]?=some (.vars [.i c.next,.list (c.atts.map encAt),.i c.dur]):=by rw[hV];exact Qa (by omega) x3 _
  have v1:V[1]?=some (.vars [.i 0,.nils,.i 0]):=by rw[hV];exact Qa (by omega) x4 _
  have vN:V[Y.length]?=some (.vars [.i (c.next+1),.list ((Ex c rs W).atts.map encAt),.i c.dur]):=by rw[hV];have:=Ql x1;simp[zW,Ex];omega
  clear hV x1 x3 x4;clear Z';have v2:=Qe v1 (.vars [.i (c.next+1),.list ((Ex c rs W).atts.map encAt),.i c.dur]);have v3:=Qa (j:=1) (by omega) v0 (.vars [.i (c.next+1),.list ((Ex c rs W).atts.map encAt),.i c.dur]);refine Wh tOk mixed [3] (.val 0 (.val 1 (.two 2 (.one 3 (.val 4 (.val 5 (.done)))) 3 (.val 2 (.val 4 (.val 5 (.done))))))) rfl (by kernel_rfl) ?_;simp[v0,v1,vN,v2,v3];repeat(refine s_ ?_;simp[v2])
  exact⟨rfl,rfl⟩
 ·refine Wi tOk rfl rfl T30 rfl T93 rfl (by decide) (by decide) rfl rfl rfl ?_;simp[En,Uk,gA];refine⟨by simp[Em]<;>omega,?_⟩;simp[yH,zW,za,zd,zc,g2];refine Qo (sl':=[(3,.vptr 0 0),(6,.vptr 1 0),(10,.vptr Y.length 0)]) ?_ (by simp);refine Q1 λZ hZ=>?_;have z0:Z[0]?=some (.vars [.i c.next,.list (c.atts.map encAt),.i c.dur]):=by rw[hZ];exact Qc (Qa (by omega) (Qa (by omega) e0 _) _) _
  have z1:Z[1]?=some (.vars [.i 0,.nils,.i 0]):=by rw[hZ];exact Qc (Qa (by omega) (Qa (by omega) e1 _) _) _
  have zN:Z[Y.length]?=some (.vars [.i c.next,.sl (E.length+3) 4 0 (c.atts.length+1),.i c.dur]):=by rw[hZ];exact Qc (Qe (Qa (by omega) e2 _) _) _
  have zO:Z[(E.length+1)]?=some (.arr 58 2 (zH W (.agg [.nils,.nils]))):=by rw[hZ,zF (by simp)];simp
  have zB:Z[E.length]?=some (.arr 4 1 (zH W (.bool false))):=by rw[hZ,zF (by simp)];simp
  have zS:Z[E.length+3]?=some (.va 93 4 (c.atts.map encAt++[Y5 ⟨c.next,rs,zH W Rv,zH W false⟩ ((E.length+1)) (E.length)])):=by rw[hZ,zF (by simp)];simp[Y5]
  clear hZ;have z8:(zH W (AV.agg [.nils,.nils])).map AV.nrm=(zH W Rv).map avOpr:=by simp[Rv]
  refine T8 ((E.length+1)) zO ?_;rw[z8];have zO2:=Qe zO (.arr 58 2 ((zH W Rv).map avOpr));have zB2:=Qa (j:=(E.length+1)) (by omega) zB (.arr 58 2 ((zH W Rv).map avOpr));have zS2:=Qa (j:=(E.length+1)) (by omega) zS (.arr 58 2 ((zH W Rv).map avOpr));have zN2:=Qa (j:=(E.length+1)) (by omega) zN (.arr 58 2 ((zH W Rv).map avOpr));have z02:=Qa (j:=(E.length+1)) (by omega) z0 (.arr 58 2 ((zH W Rv).map avOpr));have z12:=Qa (j:=(E.length+1)) (by omega) z1 (.arr 58 2 ((zH W Rv).map avOpr));refine Im (by simp) (E.length+3) ((E.length+1)) (E.length) Y.length ⟨c.next,rs,zH W Rv,zH W false⟩ c.atts [] c.next c.dur (c.atts.length+1) (by simp) zS2 zO2 (by simpa using zB2) zN2 (by omega) λZ' x1 x2=>?_;have x3:=x2 0 _ z02 (by omega) (by omega) (by omega) (by omega);have x4:=x2 1 _ z12 (by omega) (by omega) (by omega) (by omega);clear zO zB zS zN z0 z1 zO2 zB2 zS2 zN2 z02 z12 x2;repeat(refine s_ ?_;simp[x1,x3,x4,zb])
  refine Q1 λV hV=>?_;have v0:V[0]?=some (.vars [.i c.next,.list (c.atts.map encAt),.i c.dur]):=by rw[hV];exact Qa (by omega) x3 _
  have v1:V[1]?=some (.vars [.i 0,.nils,.i 0]):=by rw[hV];exact Qa (by omega) x4 _
  have vN:V[Y.length]?=some (.vars [.i (c.next+1),.list ((Ex c rs W).atts.map encAt),.i c.dur]):=by rw[hV];have:=Ql x1;simp[zW,Ex];omega
  clear hV x1 x3 x4;clear Z';have v2:=Qe v1 (.vars [.i (c.next+1),.list ((Ex c rs W).atts.map encAt),.i c.dur]);have v3:=Qa (j:=1) (by omega) v0 (.vars [.i (c.next+1),.list ((Ex c rs W).atts.map encAt),.i c.dur]);refine Wh tOk mixed [3] (.val 0 (.val 1 (.two 2 (.one 3 (.val 4 (.val 5 (.done)))) 3 (.val 2 (.val 4 (.val 5 (.done))))))) rfl (by kernel_rfl) ?_;simp[v0,v1,vN,v2,v3];repeat(refine s_ ?_;simp[v2])
  exact⟨rfl,rfl⟩
 refine Wi tOk rfl rfl T30 rfl T93 rfl (by decide) (by decide) rfl rfl rfl ?_;simp[En,Uk,gA];refine⟨by simp[Em]<;>omega,?_⟩;simp[yH,zW,za,zd,zc,g2];refine Qo (sl':=[(3,.vptr 0 0),(6,.vptr 1 0),(10,.vptr Y.length 0)]) ?_ (by simp);refine Q1 λZ hZ=>?_;have z0:Z[0]?=some (.vars [.i c.next,.list (c.atts.map encAt),.i c.dur]):=by rw[hZ];exact Qc (Qa (by omega) (Qa (by omega) e0 _) _) _
 have z1:Z[1]?=some (.vars [.i 0,.nils,.i 0]):=by rw[hZ];exact Qc (Qa (by omega) (Qa (by omega) e1 _) _) _
 have zN:Z[Y.length]?=some (.vars [.i c.next,.sl (E.length+3) 4 0 (c.atts.length+1),.i c.dur]):=by rw[hZ];exact Qc (Qe (Qa (by omega) e2 _) _) _
 have zO:Z[(E.length+1)]?=some (.arr 58 2 (zH W (.agg [.nils,.nils]))):=by rw[hZ,zF (by simp)];simp
 have zB:Z[E.length]?=some (.arr 4 1 (zH W (.bool false))):=by rw[hZ,zF (by simp)];simp
 have zS:Z[E.length+3]?=some (.va 93 4 (c.atts.map encAt++[Y5 ⟨c.next,rs,zH W Rv,zH W false⟩ ((E.length+1)) (E.length)])):=by rw[hZ,zF (by simp)];simp[Y5]
 clear hZ;have z8:(zH W (AV.agg [.nils,.nils])).map AV.nrm=(zH W Rv).map avOpr:=by simp[Rv]
 refine T8 ((E.length+1)) zO ?_;rw[z8];have zO2:=Qe zO (.arr 58 2 ((zH W Rv).map avOpr));have zB2:=Qa (j:=(E.length+1)) (by omega) zB (.arr 58 2 ((zH W Rv).map avOpr));have zS2:=Qa (j:=(E.length+1)) (by omega) zS (.arr 58 2 ((zH W Rv).map avOpr));have zN2:=Qa (j:=(E.length+1)) (by omega) zN (.arr 58 2 ((zH W Rv).map avOpr));have z02:=Qa (j:=(E.length+1)) (by omega) z0 (.arr 58 2 ((zH W Rv).map avOpr));have z12:=Qa (j:=(E.length+1)) (by omega) z1 (.arr 58 2 ((zH W Rv).map avOpr));refine Im (by simp) (E.length+3) ((E.length+1)) (E.length) Y.length ⟨c.next,rs,zH W Rv,zH W false⟩ c.atts [] c.next c.dur (c.atts.length+1) (by simp) zS2 zO2 (by simpa using zB2) zN2 (by omega) λZ' x1 x2=>?_;have x3:=x2 0 _ z02 (by omega) (by omega) (by omega) (by omega);have x4:=x2 1 _ z12 (by omega) (by omega) (by omega) (by omega);clear zO zB zS zN z0 z1 zO2 zB2 zS2 zN2 z02 z12 x2;repeat(refine s_ ?_;simp[x1,x3,x4,zb])
 refine Q1 λV hV=>?_;have v0:V[0]?=some (.vars [.i c.next,.list (c.atts.map encAt),.i c.dur]):=by rw[hV];exact Qa (by omega) x3 _
 have v1:V[1]?=some (.vars [.i 0,.nils,.i 0]):=by rw[hV];exact Qa (by omega) x4 _
 have vN:V[Y.length]?=some (.vars [.i (c.next+1),.list ((Ex c rs W).atts.map encAt),.i c.dur]):=by rw[hV];have:=Ql x1;simp[zW,Ex];omega
 clear hV x1 x3 x4;clear Z';have v2:=Qe v1 (.vars [.i (c.next+1),.list ((Ex c rs W).atts.map encAt),.i c.dur]);have v3:=Qa (j:=1) (by omega) v0 (.vars [.i (c.next+1),.list ((Ex c rs W).atts.map encAt),.i c.dur]);refine Wh tOk mixed [3] (.val 0 (.val 1 (.two 2 (.one 3 (.val 4 (.val 5 (.done)))) 3 (.val 2 (.val 4 (.val 5 (.done))))))) rfl (by kernel_rfl) ?_;simp[v0,v1,vN,v2,v3];repeat(refine s_ ?_;simp[v2])
 exact⟨rfl,rfl⟩
end
end Go.Abs
