/- Part Wk of the proof: steps on the way to the last part. No condition. -/
import Derived.Test.YtjmkolhkojgjpaaGreatDoorWj
import Derived.Test.YtjmkolhkojgjpaaGreatDoorWf
import Derived.Test.YtjmkolhkojgjpaaGreatDoorWd
import Derived.Test.YtjmkolhkojgjpaaGreatDoorWe
import Derived.Test.YtjmkolhkojgjpaaGreatDoorWc
import Derived.Test.YtjmkolhkojgjpaaGreatDoorWi
import Derived.Test.YtjmkolhkojgjpaaGreatDoorWh
import Derived.Test.YtjmkolhkojgjpaaGreatDoorWg
import Derived.Shelf.SlGeneric
import Derived.Ground.SlsfProg
import Derived.Shelf.SlSortCmp.WholeK
import Derived.Test.YtjmkolhkojgjpaaGreatDoorProg
set_option linter.all false
open List renaming range->yQ,ext_getElem->xT,getElem_eq_iff->zZ,all_eq_true->zX,mem_map->zO,mem_range->yU,nil_append->vM,getElem?_eq_getElem->zI,getElem?_eq_some_iff->zB,getElem?_set_self->zK,take_of_length_le->zT,take_succ_eq_append_getElem->zR,flatten_append->vA,flatten_cons->tN,flatten_nil->tX,append_nil->yV,take_append_drop->xI,length_append->zW,take_length->zY,getElem?_append_right->zF,filter_congr->tO,length_map->yE,mem_append->zV,getElem?_append_left->zH,getElem_mem->zL,findIdx?_map->tP,getElem?_map->zU,pairwise_map->xK,pairwise_iff_getElem->yK,take_zero->wB,flatMap_append->wV,map->uG,map_append->yR,getElem?_set_ne->zE,map_map->vE,filter_append->wZ,mem_singleton->zP,length_pos_iff->uI,length_filter_le->yW,getD->yL,append_assoc->xO,take->tB,mem_of_getElem?->zJ,zipIdx_append->tI,foldl_append->wJ,mem_cons->yB,ext_getElem?->xL,getElem_inj->vY,getElem?_eq_none->y_,map_congr_left->xD,getElem?_mapIdx->vK,findIdx?_eq_none_iff->vT,mem_append_left->yY,range_succ->wQ,flatMap_def->uY,getElem?_zipIdx->tx,mem_iff_getElem?->yO
open Nat renaming eq_zero_or_pos->wY,le_refl->zS,le_trans->yP,mul_le_mul->vU,zero_le->xA,lt_of_lt_of_le->wd
open Bool renaming eq_iff_iff->x_,not_eq_true->uX
open Option renaming map_eq_some_iff->zQ
set_option maxHeartbeats 16000000
set_option linter.unusedSimpArgs false
set_option maxRecDepth 100000
open Go.Proofs.Tryz
namespace Go.Abs
section
open Go Go.Proofs Go.Maps
def Zf(p q:Prd)(i:Nat):List Iv:=Iw (p.getD i []) (q.getD i [])
def Vy(p q:Prd):Prd×Int:=if z08 p q then(Wp p q,0)else([],5)
def Vw{p q:Prd}(h:p.length=q.length):Wp p q=(yQ p.length).map (Zf p q):=by
 refine xT (by simp[Wp,h]) λi h1 h2=>?_;have hi:i<p.length:=by simpa using h2
 have z1:i<q.length:=by omega
 simp[Wp,Zf,hi,z1]
def j00{a b:List Iv}(ha:ckR a=0)(hb:ckR b=0):Kg Sd a b=Me (Iw a b):=by unfold Kg Jh;rw[if_pos ha,if_pos hb,inter_eq]
attribute [simp] w3i
attribute [local irreducible] Kg Iw ckR upL A0
def g1h(p q:Prd)(i:Nat)(h1:i<p.length)(h2:i<q.length)(k1:ckR (p.getD i [])=0)(k2:ckR (q.getD i [])=0):PC prog 185 [.i i,.iptr [.fn (.func 123) [] []],.iptr [.list (p.map encL)],.iptr [.list (q.map encL)]] (λr=>r=Me (Zf p q i)):=by
 refine pcB func185 results185 ntmps185 ?_;simp only[Qd];have hp:(p.map encL)[i]?=some (encL (p.getD i [])):=by simp[h1]
 have z1:∀hh,(p.map encL)[i]'hh=encL (p.getD i []):=λhh=>(zZ hh).2 hp;have hq:(q.map encL)[i]?=some (encL (q.getD i [])):=by simp[h2]
 have z6:∀hh,(q.map encL)[i]'hh=encL (q.getD i []):=λhh=>(zZ hh).2 hq;have cI:=w0o (p.getD i []) (q.getD i []);rw[j00 k1 k2]at cI;have hb:Zf p q i=Iw (p.getD i []) (q.getD i []):=rfl;rw[hb];generalize p.getD i []=x at *;generalize q.getD i []=y at *
 obtain⟨s,n,e⟩:∃s n,Me (Iw x y)= .tup [LIv s,.i n]:=by
  unfold Me;split
  ·exact⟨_,_,rfl⟩
  exact⟨[],_,rfl⟩
 rw[e]at cI |-;repeat(refine s_ ?_;simp)
 refine drT [] (.pv 0 11 (.one 11 (.pv 12 4 (.done)))) ?_;simp[hp,z1,hq,z6,h1,h2];refine pcL (cI) ?_;simp;repeat(refine s_ ?_;simp)
def y12(l:List Iv):(l.length<=256/\Me l= .tup [LIv l,.i 0])\/(¬l.length<=256/\Me l= .tup [.list [],.i 5]):=by
 unfold Me;by_cases h:l.length<=256
 ·exact .inl ⟨h,if_pos h⟩
 exact .inr ⟨h,if_neg h⟩
def f2m{p q:Prd}(h:p.length=q.length)(hk:∀i,i<p.length->(Zf p q i).length<=256):Vy p q=(Wp p q,0):=by unfold Vy;rw[if_pos];unfold z08;rw[Vw h,zX];intro s hs;obtain⟨i,hi,rfl⟩:=zO.1 hs;exact decide_eq_true (hk i (yU.1 hi))
def u2w{p q:Prd}(h:p.length=q.length){i:Nat}(hi:i<p.length)(hk:¬(Zf p q i).length<=256):Vy p q=([],5):=by unfold Vy;rw[if_neg];unfold z08;rw[Vw h,zX];intro hh;have:=hh (Zf p q i) (zO.2 ⟨i,yU.2 hi,rfl⟩);exact hk (by simpa using this)
attribute [local irreducible] Me Vy Zf Wp
def y0s(p q:Prd)(zb:p.length=q.length)(hn:p.length<=1000)(k1:∀i,i<p.length->ckR (p.getD i [])=0)(k2:∀i,i<q.length->ckR (q.getD i [])=0):PC prog 99 [.i p.length,.fn (.func 185) [] [.iptr [.fn (.func 123) [] []],.iptr [.list (p.map encL)],.iptr [.list (q.map encL)]]] (λr=>r= .tup [encP (Vy p q).1,.i (Vy p q).2]):=by
 refine pcB func99 results99 ntmps99 ?_;simp only[Qd];simp only[encP];obtain⟨A,hA⟩:∃A,Vy p q=A:=⟨_,rfl⟩
 rw[hA];have c1:=λi h=>g1h p q i h (by omega) (k1 i h) (k2 i (by omega));obtain⟨g,hg⟩:∃g,AV.fn (.func 185) [] [.iptr [.fn (.func 123) [] []],.iptr [.list (p.map encL)],.iptr [.list (q.map encL)]]=g:=⟨_,rfl⟩
 obtain⟨T,hT⟩:∃T,p.length=T:=⟨_,rfl⟩
 repeat(refine s_ ?_;simp)
 refine Eu 1 0 145 1 rfl rfl ?_;simp;obtain⟨K,hK⟩:∃K,K=[AObj.vars [AV.nils],AObj.vars [AV.nils]]:=⟨_,rfl⟩
 have hst:=GL.start (K:=K) (S:=1) [] [] 145 1 (by rw[hK];simp);refine lpW (F:=λ(u:Nat×Nat×List AObj)=>⟨[(1,g),(4,.vptr 0 0),(6,.vptr 1 0),(10,.i p.length),(11,.i u.1)],u.2.2⟩)
  (λu=>u.1<=p.length/\GL K u.2.2 1 u.2.1 [] [] 145 1 (upL (Zf p q) u.1)/\∀i,i<u.1->(Zf p q i).length<=256) (λu=>p.length - u.1) ?_ (0,K.length,_) ⟨by simp,by rw[Bk,hK]at *;exact hst,λi hi=>by omega⟩ (by simp[hg])
 rintro⟨j,r,H2⟩ ⟨hj,gl,hb⟩ ih;simp only at hj gl hb ih |-;have gR:H2[0]?=some (AObj.vars [AV.nils]):=gl.kp (by decide) (by rw[hK];rfl);have g2:=gl.cell;have g3:=gl.arr;rw[Tw]at g2;simp only[vM]at g2;repeat(refine s_ ?_;simp)
 refine Qa rfl (λzf=>?_) (λzg=>?_)
 ·have z6:j<p.length:=by simpa using zf
  have hw:=wz j (by omega);have cj:=c1 j z6;have z8:∀L:List AObj,(H2.set r .dead++L)[1]?=some (AObj.vars [AV.sl r 1 0 j]):=λL=>by have:=gl.at L;rw[Tw]at this;exact this
  have zc:∀(L:List AObj) (h:1<(H2.set r .dead++L).length),(H2.set r .dead++L)[1]'h=AObj.vars [AV.sl r 1 0 j]:=λL h=>by have:=z8 L;rw[zI h]at this;exact Option.some.inj this
  have zd:=λA y=>gl.put A y (Tw _ _).symm;have zh:upL (Zf p q) j++[encL (Zf p q j)]=upL (Zf p q) (j+1):=(Bg _ _).symm;have z1:=λH=>ih (j+1,H2.length+1,H);have za:=Tw (Zf p q) j;simp only[<-zh]at z1;rcases y12 (Zf p q j)with⟨hle,e⟩|⟨zi,e⟩
  ·rw[e]at cj;have zj:∀i,i<j+1->(Zf p q i).length<=256:=λi hi=>by
    by_cases hij:i=j
    ·rw[hij];exact hle
    exact hb i (by omega)
   subst hg;repeat(refine s_ ?_;simp)
   refine pcL (cj) ?_;simp;repeat(refine s_ ?_;simp)
   refine Qa rfl (λh=>by simp at h) (λ_=>?_);repeat(refine s_ ?_;simp[g2])
   clear cj c1;generalize upL (Zf p q) j=xs at *;generalize Zf p q j=B at *;refine apS T68 P6 ?_
   simp[Qb g3,Qg g3,za,z8,zc];refine⟨by simp[Wo,Qb g3,Qg g3,za,z8,zc]<;>omega,?_⟩;repeat(refine s_ ?_;simp[g2,hw,z8,zc])
   refine Qo (sl':=[(1,AV.fn (.func 185) [] [.iptr [.fn (.func 123) [] []],.iptr [.list (p.map encL)],.iptr [.list (q.map encL)]]),(4,.vptr 0 0),(6,.vptr 1 0),(10,.i p.length),(11,.i (j+1:Nat))]) (z1 _ ⟨by omega,zd _ _,zj⟩ (by omega)) ?_;simp
  rw[e]at cj;rw[u2w zb z6 zi]at hA;subst hA;subst hg;repeat(refine s_ ?_;simp)
  refine pcL (cj) ?_;simp;repeat(refine s_ ?_;simp)
  refine Qa rfl (λ_=>?_) (λh=>by simp at h);have zk:=Qf gR (.vars [.nils]);repeat(refine s_ ?_;simp[gR,zk])
 have z7:j=p.length:=by simp at zg;omega
 rw[f2m zb (λi hi=>hb i (by omega))]at hA;subst hA;have hS:=(zB.1 g2).1;have zl:r≠0/\r≠1:=by have:=gl.ge;rw[hK]at this;simp at this;omega
 have za:=Tw (Zf p q) j;have ze: .list (upL (Zf p q) j)=AV.list ((Wp p q).map encL):=by rw[y0q,z7,Vw zb]
 rw[<-z7];generalize upL (Zf p q) j=xs at *;refine Q0 r g3 1 g2 ?_
 have k1:∀X,((H2.set r .dead).set 1 X)[0]?=some (AObj.vars [AV.nils]):=λX=>Qc (by decide) (Qc zl.1 gR _) _;have k2:∀X,((H2.set r .dead).set 1 X)[1]?=some X:=λX=>zK (by simpa using hS);have k3:∀X Y,(((H2.set r .dead).set 1 X).set 0 Y)[0]?=some Y:=λX Y=>Qf (k1 X) _;simp[za];rw[zT (by omega)];repeat(refine s_ ?_;simp[k1,k2,k3])
 exact AV.list.inj ze
attribute [simp] w3p
def k1s(p q:Prd)(z1:p.length=q.length)(ho:A0 [p,q]=0)(hn:p.length<=1000)(k1:∀i,i<p.length->ckR (p.getD i [])=0)(k2:∀i,i<q.length->ckR (q.getD i [])=0):PC prog 122 [encP p,encP q,.fn (.func 123) [] []] (λr=>r= .tup [encP (Vy p q).1,.i (Vy p q).2]):=by
 refine pcB func122 results122 ntmps122 ?_;simp only[Qd];have cC:=Ag [p,q];have cE:=y0s p q z1 hn k1 k2;rw[ho]at cC;generalize Vy p q=A at *;simp only[encP]at cC cE |-;refine Wv 0 0 rfl rfl (λhl=>?_)
 refine Wv 1 0 rfl rfl (λz7=>?_);have z6:yQ 2=[0,1]:=rfl;repeat(refine s_ ?_;simp[z6])
 refine Qp 4 rfl ?_;simp;refine pcL (cC) ?_;simp;repeat(refine s_ ?_;simp)
 refine Qa rfl (λh=>by simp at h) (λ_=>?_);repeat(refine s_ ?_;simp)
 refine Qa rfl (λh=>by simp[z1]at h) (λ_=>?_);repeat(refine s_ ?_;simp)
 refine I9 (ys:=[.fn (.func 123) [] []]) 2 (by simp[Q8,AV.pure]) rfl ?_;simp;refine I9 (ys:=[.list (p.map encL)]) 0 (by simp) rfl ?_;simp;refine I9 (ys:=[.list (q.map encL)]) 1 (by simp) rfl ?_;simp;refine pcL (cE) ?_;simp;repeat(refine s_ ?_;simp)
def x2u(p q:Prd)(z1:p.length=q.length)(ho:A0 [p,q]=0)(hn:p.length<=1000)(k1:∀i,i<p.length->ckR (p.getD i [])=0)(k2:∀i,i<q.length->ckR (q.getD i [])=0):PC prog 60 [encP p,encP q] (λr=>r= .tup [encP (Vy p q).1,.i (Vy p q).2]):=by
 refine pcB func60 results60 ntmps60 ?_;simp only[Qd];have cE:=k1s p q z1 ho hn k1 k2;generalize Vy p q=A at *;simp only[encP]at cE |-
 repeat(refine s_ ?_;simp)
 refine pcL (cE) ?_;simp;repeat(refine s_ ?_;simp)
end
section
open Go Go.Proofs
abbrev LBo (l:List Bool):AV:= .list (l.map .bool)
abbrev Yp (l:List Mv):AV:= .list (l.map encMv)
end
section
open Go Go.Proofs
def k1d(H:List AObj)(n:Nat)(h0:0<n)(hn:n<=100000):FC prog 162 [.nils,.i n] H
  (λr H'=>r= .sl H.length 1 0 0/\H'=H++[.arr 4 1 []]):=by
 have z6:¬((n:Int)<0):=by omega
 have hw:IntKind.i64.wrap (n:Int)=n:=wrap_i64 _ (by omega) (by omega);refine fcB func162 results162 ntmps162 ?_;simp only[Qd];repeat(refine s_ ?_;simp)
 refine Qa rfl (λh=>?_) (λh=>?_)
 ·simp[z6]at h
 have z1:IntKind.i64.wrap 0=0:=by decide
 repeat(refine s_ ?_;simp[hw])
 refine W6 tOk rfl rfl T22 rfl rfl rfl ?_;simp[hw,z1];repeat(refine s_ ?_;simp[hw,z1])
 refine Qa rfl (λh2=>?_) (λh2=>?_)
 ·repeat(refine s_ ?_;simp[hw,z1])
  refine W6 tOk rfl rfl T22 rfl rfl rfl ?_;simp[hw,z1];refine E5 tOk rfl rfl T22 rfl T3 rfl T4 rfl (by decide) rfl (n:=n) rfl h0 (by simp;omega) (by omega) (.bool false) rfl rfl ?_;simp;refine Pq H.length 0 (Fp H _ []) ?_;simp;repeat(refine s_ ?_;simp)
 simp at h2;omega
def v1k(H:List AObj):FC prog 162 [.nils,.i 0] H (λr H'=>r= .nils/\H'=H):=by
 refine fcB func162 results162 ntmps162 ?_;simp only[Qd];have z1:IntKind.i64.wrap 0=0:=by decide
 repeat(refine s_ ?_;simp)
 refine Qk rfl ?_;simp;repeat(refine s_ ?_;simp[z1])
 refine W6 tOk rfl rfl T22 rfl rfl rfl ?_;simp[z1];repeat(refine s_ ?_;simp[z1])
 refine Qk rfl ?_;simp;repeat(refine s_ ?_;simp[z1])
def Ab(ls:List (List Bool)):List Bool:=ls.flatten
def Jx(ls:List (List Bool))(j:Nat)(h:j<ls.length):Ab (ls.take (j+1))=Ab (ls.take j)++ls[j]:=by unfold Ab;rw[zR h,vA];simp only[tN,tX,yV]
def z0i(ls:List (List Bool))(j:Nat):(Ab (ls.take j)).length<=(Ab ls).length:=by
 conv=>rhs;rw[<-xI j ls,Ab,vA,zW]
 rw[Ab];omega
def Nc(ls:List (List Bool)):Ab (ls.take ls.length)=Ab ls:=by rw[zY]
def Dy:Ab []=[]:=rfl
attribute [local irreducible] Ab
def k0y(ls:List (List Bool))(hl:ls.length<=1000)(ht:(Ab ls).length<=100000):PC prog 93 [.list (ls.map LBo)] (λr=>r=LBo (Ab ls)):=by
 refine pcB func93 results93 ntmps93 ?_;simp only[Qd];repeat(refine s_ ?_;simp)
 refine Qr ls.length (λ_=>True) (λj=>[(0,.list (ls.map LBo)),(3,.i (Ab (ls.take j)).length),(9,.list (ls.map LBo)),(10,.i ls.length),(11,.i j)]) (λ_=>[]) rfl (by simp) (by simp[Dy]) (by simp) (by simp) trivial ?_;intro j hj hI ih;repeat(refine s_ ?_;simp)
 refine Qa rfl (λz8=>?_) (λza=>?_)
 ·have z1:j<ls.length:=by simpa using z8
  have hw:=wz j (by omega);have zc:=z0i ls (j+1);have ih:=ih z1 trivial;have z7:(Ab (ls.take (j+1))).length=(Ab (ls.take j)).length+ls[j].length:=by rw[Jx ls j z1,zW]
  generalize (Ab (ls.take (j+1))).length=m at *;generalize (Ab (ls.take j)).length=k at *
  have zd:IntKind.i64.wrap ((k:Int)+ls[j].length)=m:=by rw[wrap_i64 _ (by omega) (by omega)];omega
  repeat(refine s_ ?_;simp[z1,zd])
  refine Qa rfl (λh2=>?_) (λh2=>?_)
  ·simp at h2;omega
  repeat(refine s_ ?_;simp[hw,zd])
  refine Qt _ ih rfl (by simp) ?_ (by simp) (by simp);simp
 have z6:j=ls.length:=by simp at za;omega
 subst z6;clear ih;obtain⟨n,hn⟩:∃n,(Ab ls).length=n:=⟨_,rfl⟩
 rw[Nc,hn];rcases wY n with h0|h0
 ·subst h0;repeat(refine s_ ?_;simp)
  refine Qm rfl rfl (v1k []) rfl ?_;rintro r H' ⟨rfl,rfl⟩;simp;repeat(refine s_ ?_;simp)
  refine Qw 6 4 1 rfl ?_;simp;refine lpW (F:=λ(u:Nat×Nat×List AObj)=>⟨[(6,.sl u.2.1 1 0 (Ab (ls.take u.1)).length),(25,.list (ls.map LBo)),(26,.i ls.length),(27,.i u.1)],u.2.2⟩)
   (λu=>u.1<=ls.length/\u.2.2[u.2.1]?=some (.arr 4 1 ((Ab (ls.take u.1)).map AV.bool))) (λu=>ls.length - u.1) ?_ (0,0,[.arr 4 1 []]) ⟨by simp,by simp[Dy]⟩ (by simp[Dy])
  rintro⟨j,q,H2⟩ ⟨hj,g1⟩ ih;simp only at hj g1 ih |-;repeat(refine s_ ?_;simp)
  refine Qa rfl (λz8=>?_) (λza=>?_)
  ·have z1:j<ls.length:=by simpa using z8
   have hw:=wz j (by omega);have zc:=z0i ls (j+1);have hs:=Jx ls j z1;have z7:(Ab (ls.take (j+1))).length=(Ab (ls.take j)).length+ls[j].length:=by rw[hs,zW]
   have zb:=λ(q':Nat) (H':List AObj) (h:H'[q']?=some (.arr 4 1 ((Ab (ls.take j)++ls[j]).map AV.bool)))=>ih (j+1,q',H') ⟨by simp;omega,by rw[hs];exact h⟩ (by simp;omega);clear ih;simp only[hs]at zb;rw[z7]at zc;clear hs z7;generalize Ab (ls.take j)=acc at *
   repeat(refine s_ ?_;simp[z1])
   refine apS T22 T4 ?_;simp[Qb g1,Qg g1,g1];refine⟨⟨λy hy=>by obtain⟨b,_,rfl⟩:=zO.1 hy;simp[AV.leaf],by simp;omega⟩,?_⟩;repeat(refine s_ ?_;simp[hw])
   exact Qo (sl':=[(6,.sl H2.length 1 0 (acc.length+ls[j].length)),(25,.list (ls.map LBo)),(26,.i ls.length),(27,.i (j+1:Nat))]) (by
    have:=zb H2.length (H2.set q .dead++[.arr 4 1 ((acc++ls[j]).map AV.bool)]) (by rw[zF (by simp)];simp);simpa using this) (by simp)
  have z6:j=ls.length:=by simp at za;omega
  subst z6;rw[Nc]at g1;rw[zY];repeat(refine s_ ?_;simp[g1])
  rw[zT (by simp)]
 repeat(refine s_ ?_;simp)
 refine Qm rfl rfl (k1d [] n h0 (by omega)) rfl ?_;rintro r H' ⟨rfl,rfl⟩;simp;repeat(refine s_ ?_;simp)
 refine lpW (F:=λ(u:Nat×Nat×List AObj)=>⟨[(6,.sl u.2.1 1 0 (Ab (ls.take u.1)).length),(25,.list (ls.map LBo)),(26,.i ls.length),(27,.i u.1)],u.2.2⟩)
  (λu=>u.1<=ls.length/\u.2.2[u.2.1]?=some (.arr 4 1 ((Ab (ls.take u.1)).map AV.bool))) (λu=>ls.length - u.1) ?_ (0,0,[.arr 4 1 []]) ⟨by simp,by simp[Dy]⟩ (by simp[Dy])
 rintro⟨j,q,H2⟩ ⟨hj,g1⟩ ih;simp only at hj g1 ih |-;repeat(refine s_ ?_;simp)
 refine Qa rfl (λz8=>?_) (λza=>?_)
 ·have z1:j<ls.length:=by simpa using z8
  have hw:=wz j (by omega);have zc:=z0i ls (j+1);have hs:=Jx ls j z1;have z7:(Ab (ls.take (j+1))).length=(Ab (ls.take j)).length+ls[j].length:=by rw[hs,zW]
  have zb:=λ(q':Nat) (H':List AObj) (h:H'[q']?=some (.arr 4 1 ((Ab (ls.take j)++ls[j]).map AV.bool)))=>ih (j+1,q',H') ⟨by simp;omega,by rw[hs];exact h⟩ (by simp;omega);clear ih;simp only[hs]at zb;rw[z7]at zc;clear hs z7;generalize Ab (ls.take j)=acc at *
  repeat(refine s_ ?_;simp[z1])
  refine apS T22 T4 ?_;simp[Qb g1,Qg g1,g1];refine⟨⟨λy hy=>by obtain⟨b,_,rfl⟩:=zO.1 hy;simp[AV.leaf],by simp;omega⟩,?_⟩;repeat(refine s_ ?_;simp[hw])
  exact Qo (sl':=[(6,.sl H2.length 1 0 (acc.length+ls[j].length)),(25,.list (ls.map LBo)),(26,.i ls.length),(27,.i (j+1:Nat))]) (by
   have:=zb H2.length (H2.set q .dead++[.arr 4 1 ((acc++ls[j]).map AV.bool)]) (by rw[zF (by simp)];simp);simpa using this) (by simp)
 have z6:j=ls.length:=by simp at za;omega
 subst z6;rw[Nc]at g1;rw[zY];repeat(refine s_ ?_;simp[g1])
 rw[zT (by simp)]
end
section
open Go Go.Proofs
def g1j(H:List AObj)(n:Nat)(h0:0<n)(hn:n<=100000):FC prog 164 [.nils,.i n] H
  (λr H'=>r= .sl H.length 3 0 0/\H'=H++[.arr 73 3 []]):=by
 have z6:¬((n:Int)<0):=by omega
 have hw:IntKind.i64.wrap (n:Int)=n:=wrap_i64 _ (by omega) (by omega);refine fcB func164 results164 ntmps164 ?_;simp only[Qd];repeat(refine s_ ?_;simp)
 refine Qa rfl (λh=>?_) (λh=>?_)
 ·simp[z6]at h
 have z1:IntKind.i64.wrap 0=0:=by decide
 repeat(refine s_ ?_;simp[hw])
 refine W6 tOk rfl rfl T23 rfl rfl rfl ?_;simp[hw,z1];repeat(refine s_ ?_;simp[hw,z1])
 refine Qa rfl (λh2=>?_) (λh2=>?_)
 ·repeat(refine s_ ?_;simp[hw,z1])
  refine W6 tOk rfl rfl T23 rfl rfl rfl ?_;simp[hw,z1];refine E5 tOk rfl rfl T23 rfl T3 rfl T73 rfl (by decide) rfl (n:=n) rfl h0 (by simp;omega) (by omega) (.agg [.int .i64 0,.int .i64 0,.nils]) rfl rfl ?_;simp;refine Pq H.length 0 (Fp H _ []) ?_;simp;repeat(refine s_ ?_;simp)
 simp at h2;omega
def w1u(H:List AObj):FC prog 164 [.nils,.i 0] H (λr H'=>r= .nils/\H'=H):=by
 refine fcB func164 results164 ntmps164 ?_;simp only[Qd];have z1:IntKind.i64.wrap 0=0:=by decide
 repeat(refine s_ ?_;simp)
 refine Qk rfl ?_;simp;repeat(refine s_ ?_;simp[z1])
 refine W6 tOk rfl rfl T23 rfl rfl rfl ?_;simp[z1];repeat(refine s_ ?_;simp[z1])
 refine Qk rfl ?_;simp;repeat(refine s_ ?_;simp[z1])
def Pk(ls:List (List  Mv)):List  Mv:=ls.flatten
def Lh(ls:List (List  Mv))(j:Nat)(h:j<ls.length):Pk (ls.take (j+1))=Pk (ls.take j)++ls[j]:=by unfold Pk;rw[zR h,vA];simp only[tN,tX,yV]
def z0l(ls:List (List  Mv))(j:Nat):(Pk (ls.take j)).length<=(Pk ls).length:=by
 conv=>rhs;rw[<-xI j ls,Pk,vA,zW]
 rw[Pk];omega
def V1(ls:List (List  Mv)):Pk (ls.take ls.length)=Pk ls:=by rw[zY]
def D3:Pk []=[]:=rfl
attribute [local irreducible] Pk
def g08(ls:List (List  Mv))(hl:ls.length<=1000)(ht:(Pk ls).length<=100000):PC prog 96 [.list (ls.map Yp)] (λr=>r=Yp (Pk ls)):=by
 refine pcB func96 results96 ntmps96 ?_;simp only[Qd];repeat(refine s_ ?_;simp)
 refine Qr ls.length (λ_=>True) (λj=>[(0,.list (ls.map Yp)),(3,.i (Pk (ls.take j)).length),(9,.list (ls.map Yp)),(10,.i ls.length),(11,.i j)]) (λ_=>[]) rfl (by simp) (by simp[D3]) (by simp) (by simp) trivial ?_;intro j hj hI ih;repeat(refine s_ ?_;simp)
 refine Qa rfl (λz8=>?_) (λza=>?_)
 ·have z1:j<ls.length:=by simpa using z8
  have hw:=wz j (by omega);have zc:=z0l ls (j+1);have ih:=ih z1 trivial;have z7:(Pk (ls.take (j+1))).length=(Pk (ls.take j)).length+ls[j].length:=by rw[Lh ls j z1,zW]
  generalize (Pk (ls.take (j+1))).length=m at *;generalize (Pk (ls.take j)).length=k at *
  have zd:IntKind.i64.wrap ((k:Int)+ls[j].length)=m:=by rw[wrap_i64 _ (by omega) (by omega)];omega
  repeat(refine s_ ?_;simp[z1,zd])
  refine Qa rfl (λh2=>?_) (λh2=>?_)
  ·simp at h2;omega
  repeat(refine s_ ?_;simp[hw,zd])
  refine Qt _ ih rfl (by simp) ?_ (by simp) (by simp);simp
 have z6:j=ls.length:=by simp at za;omega
 subst z6;clear ih;obtain⟨n,hn⟩:∃n,(Pk ls).length=n:=⟨_,rfl⟩
 rw[V1,hn];rcases wY n with h0|h0
 ·subst h0;repeat(refine s_ ?_;simp)
  refine Qm rfl rfl (w1u []) rfl ?_;rintro r H' ⟨rfl,rfl⟩;simp;repeat(refine s_ ?_;simp)
  refine Qw 6 73 3 rfl ?_;simp;refine lpW (F:=λ(u:Nat×Nat×List AObj)=>⟨[(6,.sl u.2.1 3 0 (Pk (ls.take u.1)).length),(25,.list (ls.map Yp)),(26,.i ls.length),(27,.i u.1)],u.2.2⟩)
   (λu=>u.1<=ls.length/\u.2.2[u.2.1]?=some (.arr 73 3 ((Pk (ls.take u.1)).map encMv))) (λu=>ls.length - u.1) ?_ (0,0,[.arr 73 3 []]) ⟨by simp,by simp[D3]⟩ (by simp[D3])
  rintro⟨j,q,H2⟩ ⟨hj,g1⟩ ih;simp only at hj g1 ih |-;repeat(refine s_ ?_;simp)
  refine Qa rfl (λz8=>?_) (λza=>?_)
  ·have z1:j<ls.length:=by simpa using z8
   have hw:=wz j (by omega);have zc:=z0l ls (j+1);have hs:=Lh ls j z1;have z7:(Pk (ls.take (j+1))).length=(Pk (ls.take j)).length+ls[j].length:=by rw[hs,zW]
   have zb:=λ(q':Nat) (H':List AObj) (h:H'[q']?=some (.arr 73 3 ((Pk (ls.take j)++ls[j]).map encMv)))=>ih (j+1,q',H') ⟨by simp;omega,by rw[hs];exact h⟩ (by simp;omega);clear ih;simp only[hs]at zb;rw[z7]at zc;clear hs z7;generalize Pk (ls.take j)=acc at *
   repeat(refine s_ ?_;simp[z1])
   refine apS T23 T73 ?_;simp[Qb g1,Qg g1,g1];refine⟨by simp[Wo,Qb g1,Qg g1,g1]<;>omega,?_⟩;repeat(refine s_ ?_;simp[hw])
   exact Qo (sl':=[(6,.sl H2.length 3 0 (acc.length+ls[j].length)),(25,.list (ls.map Yp)),(26,.i ls.length),(27,.i (j+1:Nat))]) (by
    have:=zb H2.length (H2.set q .dead++[.arr 73 3 ((acc++ls[j]).map encMv)]) (by rw[zF (by simp)];simp);simpa using this) (by simp)
  have z6:j=ls.length:=by simp at za;omega
  subst z6;rw[V1]at g1;rw[zY];repeat(refine s_ ?_;simp[g1])
  rw[zT (by simp)]
 repeat(refine s_ ?_;simp)
 refine Qm rfl rfl (g1j [] n h0 (by omega)) rfl ?_;rintro r H' ⟨rfl,rfl⟩;simp;repeat(refine s_ ?_;simp)
 refine lpW (F:=λ(u:Nat×Nat×List AObj)=>⟨[(6,.sl u.2.1 3 0 (Pk (ls.take u.1)).length),(25,.list (ls.map Yp)),(26,.i ls.length),(27,.i u.1)],u.2.2⟩)
  (λu=>u.1<=ls.length/\u.2.2[u.2.1]?=some (.arr 73 3 ((Pk (ls.take u.1)).map encMv))) (λu=>ls.length - u.1) ?_ (0,0,[.arr 73 3 []]) ⟨by simp,by simp[D3]⟩ (by simp[D3])
 rintro⟨j,q,H2⟩ ⟨hj,g1⟩ ih;simp only at hj g1 ih |-;repeat(refine s_ ?_;simp)
 refine Qa rfl (λz8=>?_) (λza=>?_)
 ·have z1:j<ls.length:=by simpa using z8
  have hw:=wz j (by omega);have zc:=z0l ls (j+1);have hs:=Lh ls j z1;have z7:(Pk (ls.take (j+1))).length=(Pk (ls.take j)).length+ls[j].length:=by rw[hs,zW]
  have zb:=λ(q':Nat) (H':List AObj) (h:H'[q']?=some (.arr 73 3 ((Pk (ls.take j)++ls[j]).map encMv)))=>ih (j+1,q',H') ⟨by simp;omega,by rw[hs];exact h⟩ (by simp;omega);clear ih;simp only[hs]at zb;rw[z7]at zc;clear hs z7;generalize Pk (ls.take j)=acc at *
  repeat(refine s_ ?_;simp[z1])
  refine apS T23 T73 ?_;simp[Qb g1,Qg g1,g1];refine⟨by simp[Wo,Qb g1,Qg g1,g1]<;>omega,?_⟩;repeat(refine s_ ?_;simp[hw])
  exact Qo (sl':=[(6,.sl H2.length 3 0 (acc.length+ls[j].length)),(25,.list (ls.map Yp)),(26,.i ls.length),(27,.i (j+1:Nat))]) (by
   have:=zb H2.length (H2.set q .dead++[.arr 73 3 ((acc++ls[j]).map encMv)]) (by rw[zF (by simp)];simp);simpa using this) (by simp)
 have z6:j=ls.length:=by simp at za;omega
 subst z6;rw[V1]at g1;rw[zY];repeat(refine s_ ?_;simp[g1])
 rw[zT (by simp)]
end
section
open Go Go.Proofs Go.Maps Go.RowKit
section
variable {P:Program} [Env P] {nt k:Nat} {S:AS} {ops:Array Oper} {o:Oper} {R:AS->Prop}
def q0f{wr:Bool}(hw:Qn ops S o=some true)(hd:Wx nt o=true)(ho:o.op= .assign (.const (.map none)))(hR:R (S.putD o.dst .top)):Q7 P nt k wr ops o S R:=
 c0v hw hd (λW0 I0 w I m a z1 z6=>⟨.map none,by simp[execOp,ho,Act.eval],.pure (.top _)⟩) hR
end
def f0f(a:Aut)(near:Gy):Yk a near 0=Ni a near (Ys a a):=by unfold Yk Ni;refine tO λs _=>?_;unfold Zp La;cases lkN near s<;>simp
def j0w(a:Aut)(near:Gy)(d:Nat):Yk a near (d+1)=Ni a near (λs=>Nn near (d:Int) (Ee a a s)):=by
 unfold Yk Ni;refine tO λs _=>?_;unfold Zp La Nn
 congr 1
 ·cases lkN near s<;>simp
 show(Ee a a s).any _=(Ee a a s).any _
 congr 1
 funext e;cases lkN near e.2 with
 |none=>simp
 |some k=>simp;omega
structure NB (a:Aut) (near:Gy):Prop where
 nk:NK near
 inn:∀e∈near,inP a e.1
 bd:∀e∈near,e.2<=1000000
def NB.len{a:Aut}{near:Gy}(h:NB a near):near.length<=a.fin.length * a.fin.length:=by
 have e:near.length=(near.map (·.1)).length:=by rw[yE]
 rw[<-Pj,e];refine Yd _ _ h.nk.nd λx hx=>?_;obtain⟨e,he,rfl⟩:=zO.1 hx;exact S1 (h.inn e he).1 (h.inn e he).2
def NB.add{a:Aut}(ha:OkA a){near:Gy}(h:NB a near)(pf:Int×Int->Bool)(d:Nat)(hd:d<=1000000):NB a (near++(Ni a near pf).map λs=>(s,d)):=by
 refine⟨h.nk.round ha pf d (l:=Ni a near pf) (r:=[]) (by simp),λe he=>?_,λe he=>?_⟩;rcases zV.1 he with he|he
 ·exact h.inn e he
 ·obtain⟨s,hs,rfl⟩:=zO.1 he;exact(C2 hs).1
 rcases zV.1 he with he|he
 ·exact h.bd e he
 obtain⟨s,hs,rfl⟩:=zO.1 he;exact hd
def q27(a:Aut):NB a []:=⟨⟨by simp,by simp⟩,by simp,by simp⟩
def g0k(a:Aut)(f d:Nat)(near:Gy):L6 a (f+1) d near=if Yk a near d=[]then near else L6 a f (d+1) (near++(Yk a near d).map λs=>(s,d)):=by rw[L6]
def w1y(a:Aut):U0 a=L6 a (a.fin.length * a.fin.length+1) 1 ((Yk a [] 0).map λs=>(s,0)):=rfl
attribute [local irreducible] Wz Re Ot Ee Ys lkN Nn Ni L6 U0
def q0z(a:Aut)(ha:OkA a)(H:List AObj):FC prog 178 [Yo a] H (λr H'=>∃M,r= .mref M/\H.length<=M/\H'[M]?=some (mpN (U0 a))/\NB a (U0 a)/\∀i,i<H.length->H'[i]? =H[i]?):=by
 refine fcB func178 results178 ntmps178 ?_;simp only[Qd];simp only[Yo,Ww];have z6:=ha.fin;repeat(refine s_ ?_;simp)
 refine q0f rfl rfl rfl ?_;simp;repeat(refine s_ ?_;simp)
 refine Ea rfl rfl rfl ?_;simp;repeat(refine s_ ?_;simp)
 refine Jl λZ hZ=>?_;have zA:Z[H.length]?=some (.vars (Ww a)):=by rw[hZ,zF (by omega)];simp[Ww]
 have zM:Z[H.length+1]?=some (mpN []):=by rw[hZ,zF (by omega)];simp[mpN,kvN]
 have zN:Z[H.length+2]?=some (.vars [.mref (H.length+1)]):=by rw[hZ,zF (by omega)];simp
 have zC:Z[H.length+3]?=some (.vars [.i a.fin.length]):=by rw[hZ,zF (by omega)];simp
 have zk:∀i,i<H.length->Z[i]? =H[i]? :=λi hi=>by rw[hZ,zH hi]
 clear hZ;refine Qm rfl rfl (x0o a ha Z (H.length+3) (H.length+2) (H.length+1) [] 0 (Ys a a) 227 [.vptr H.length 0] zC zN zM (q27 a).nk (λp q H' hp hq hk=>FC.mono (j1l a ha H' H.length ((hk _ (Qe zA)).trans zA) p q hp hq) (λr K ⟨h1,h2⟩=>⟨h1,λi _=>by rw[h2]⟩))) rfl ?_;rintro _ Y ⟨rfl,yM,yk⟩;simp;have yA:=(yk _ (Qe zA) (by omega)).trans zA;have yN:=(yk _ (Qe zN) (by omega)).trans zN;have yC:=(yk _ (Qe zC) (by omega)).trans zC;have zc:=Qe zC;have z7:∀i,i<H.length->Y[i]? =H[i]? :=λi hi=>(yk i (by omega) (by omega)).trans (zk i hi);clear zA zM zN zC zk yk zc;clear Z;have z8:=w1y a;rw[f0f]at z8;have za:=(q27 a).add ha (Ys a a) 0 (by omega);rw[vM]at yM za;generalize zd:(Ni a [] (Ys a a)).map (λs=>(s,0))=near1 at *
 obtain⟨R,hR⟩:∃R,U0 a=R:=⟨_,rfl⟩
 rw[hR]at z8 |-;have zb:=Qe yC;repeat(refine s_ ?_;simp)
 refine R9 (Qo (sl':=[(1,.vptr H.length 0),(2,.top),(3,.vptr (H.length+2) 0),(4,.vptr (H.length+3) 0),(5,.fn (.func 226) [] [.vptr (H.length+3) 0,.vptr (H.length+2) 0]),(6,.vptr Y.length 0)]) ?_ (by simp))
 refine R8 (P:=prog) (F:=λ(u:Nat×Nat×Gy×Nat×List AObj)=>⟨[(1,.vptr H.length 0),(2,.top),(3,.vptr (H.length+2) 0),(4,.vptr (H.length+3) 0),(5,.fn (.func 226) [] [.vptr (H.length+3) 0,.vptr (H.length+2) 0]),(6,.vptr u.1 0)],u.2.2.2.2⟩)
  (λu=>NB a u.2.2.1/\1<=u.2.1/\u.2.1<=u.2.2.1.length+1/\a.fin.length * a.fin.length+1<=u.2.2.1.length+u.2.2.2.1/\R=L6 a u.2.2.2.1 u.2.1 u.2.2.1/\u.2.2.2.2[H.length]?=some (.vars (Ww a))/\u.2.2.2.2[H.length+1]?=some (mpN u.2.2.1)/\u.2.2.2.2[H.length+2]?=some (.vars [.mref (H.length+1)])/\u.2.2.2.2[H.length+3]?=some (.vars [.i a.fin.length])/\u.2.2.2.2[u.1]?=some (.vars [.i u.2.1])/\∀i,i<H.length->u.2.2.2.2[i]? =H[i]?)
  (λu=>u.2.2.2.1) ?_ (Y.length,1,near1,a.fin.length * a.fin.length+1,Y++[.vars [.i 1]]) ⟨za,zS _,by simp,by simp,z8,Qb yA _,Qb yM _,Qb yN _,Qb yC _,by simp,λi hi=>by rw[zH (by omega)];exact z7 i hi⟩
 clear z8 za zd yA yM yN yC z7 zb;clear Y;rintro⟨D,d,near,F,G⟩ ⟨hb,ze,zf,hF,z1,gA,gM,gN,gC,gD,gk⟩ ih;simp only at hb ze zf hF z1 gA gM gN gC gD gk ih |-;have zi:=hb.len;have zj:a.fin.length * a.fin.length<=65536:=yP (vU z6.2 z6.2) (by decide);obtain⟨e,rfl⟩:∃e,d=e+1:=⟨d - 1,by omega⟩
 obtain⟨F,rfl⟩:∃f,F=f+1:=⟨F - 1,by omega⟩
 rw[g0k,j0w]at z1;repeat(refine s_ ?_;simp[gD])
 refine Qm rfl rfl (x0o a ha G (H.length+3) (H.length+2) (H.length+1) near (e+1) (λs=>Nn near (e:Int) (Ee a a s)) 228 [.vptr H.length 0,.vptr (H.length+2) 0,.vptr D 0] gC gN gM hb.nk (λp q H' hp hq hk=>FC.mono (f1f a ha H' H.length (H.length+2) (H.length+1) D near (e+1) ((hk _ (Qe gA)).trans gA) ((hk _ (Qe gN)).trans gN) ((hk _ (Qe gM)).trans gM) ((hk _ (Qe gD)).trans gD) (by omega) hb.nk p q hp hq) (λr K ⟨h1,h2⟩=>⟨by rw[h1];congr 2;omega,h2⟩))) rfl ?_;rintro _ Y ⟨rfl,yM,yk⟩;simp;have zg:D≠H.length+1:=λe=>by rw[e,gM]at gD;simp[mpN]at gD
 have yD:=(yk _ (Qe gD) zg).trans gD;have yA:=(yk _ (Qe gA) (by omega)).trans gA;have yN:=(yk _ (Qe gN) (by omega)).trans gN;have yC:=(yk _ (Qe gC) (by omega)).trans gC;have zl:=Qe gC;have z7:∀i,i<H.length->Y[i]? =H[i]? :=λi hi=>(yk i (by omega) (by omega)).trans (gk i hi);have zh:=hb.add ha (λs=>Nn near (e:Int) (Ee a a s)) (e+1) (by omega);generalize Ni a near (λs=>Nn near (e:Int) (Ee a a s))=L at *
 refine Qa rfl (λh=>?_) (λh=>?_)
 ·have hL:0<L.length:=by simpa using h
  rw[if_neg (λk=>by rw[k]at hL;simp at hL)]at z1;have hw:IntKind.i64.wrap ((e:Int)+1+1)=e+1+1:=wrap_i64 _ (by omega) (by omega);repeat(refine s_ ?_;simp[yD,hw])
  refine lkA [(1,.vptr H.length 0),(2,.top),(3,.vptr (H.length+2) 0),(4,.vptr (H.length+3) 0),(5,.fn (.func 226) [] [.vptr (H.length+3) 0,.vptr (H.length+2) 0]),(6,.vptr Y.length 0)] ?_;have zb:=Qe yC;refine ih (Y.length,e+1+1,near++L.map (λs=>(s,e+1)),F,_) ⟨zh,by simp only;omega,by simp;omega,by simp;omega,z1,?_,?_,?_,?_,?_,λi hi=>?_⟩ (by simp only;omega)
  ·exact Qb yA _
  ·exact Qb yM _
  ·exact Qb yN _
  ·exact Qb yC _
  ·simp
  simp only;rw[zH (by omega)];exact z7 i hi
 have hL:L=[]:=by
  cases L with
  |nil=>rfl
  |cons x l=>simp at h
 subst hL;rw[if_pos rfl]at z1;subst z1;repeat(refine s_ ?_;simp[yN])
 refine⟨by simpa using yM,hb,z7⟩
end
section
open Go Go.Proofs Go.Maps Go.RowKit
attribute [local irreducible] Wz Re Ot Ee Ys lkN Ji L5
end
section
open Go Go.Proofs Go.Maps Go.RowKit
def x10(H:List AObj)(q:Nat)(l:List Int)(g:Nat)(cs:List AV)(f:Int->Bool)(hq:H[q]?=some (.arr 3 1 (l.map AV.i)))(n:Nat)(hn:l.length=n)(hl:l.length<=1000000000)(hg:∀z∈l,FC prog g ([]++[.i z]++cs) H (λr H'=>r= .bool (f z)/\H'=H)):
  FC prog 106 [.sl q 1 0 n,.fn (.func g) [] cs] H (λr H'=>r= .i (q02 f l)/\H'=H):=by
 subst hn;refine fcB func106 results106 ntmps106 ?_;simp only[Qd];repeat(refine s_ ?_;simp)
 refine lpV (F:=λ(j:Nat)=>⟨[(0,.sl q 1 0 l.length),(1,.fn (.func g) [] cs),(7,.i l.length),(8,.i j)],H⟩)
  (λj=>j<=l.length/\∀i,∀hi:i<l.length,i<j->f l[i]=false) (λj=>l.length - j) ?_ 0 ⟨by simp,by simp⟩
 rintro j ⟨hj,hI⟩ ih;repeat(refine s_ ?_;simp)
 refine Qa rfl (λz7=>?_) (λz8=>?_)
 ·have z1:j<l.length:=by simpa using z7
  have hw:=wz j (by omega);have za:(l.map AV.i)[j]?=some (.i l[j]):=by simp[z1]
  have zb:∀hh,(l.map AV.i)[j]'hh= .i l[j]:=λhh=>by simp
  repeat(refine s_ ?_;simp[z1,hq,za,zb])
  refine Qm rfl rfl (hg _ (zL z1)) rfl ?_;rintro r H' ⟨rfl,rfl⟩;simp;repeat(refine s_ ?_;simp)
  refine Qa rfl (λh=>?_) (λh=>?_)
  ·repeat(refine s_ ?_;simp)
   rw[Ba z1 h hI]
  repeat(refine s_ ?_;simp[hw])
  refine Qo (sl':=[(0,.sl q 1 0 l.length),(1,.fn (.func g) [] cs),(7,.i l.length),(8,.i (j+1:Nat))]) (ih (j+1) ⟨by omega,λi hi zc=>?_⟩ (by omega)) (by simp);by_cases e:i=j
  ·subst e;exact h
  exact hI i hi (by omega)
 have z6:j=l.length:=by simp at z8;omega
 subst z6;repeat(refine s_ ?_;simp)
 rw[Ja hI]
attribute [local irreducible] Wz Re Ot Ee Ys lkN U0 Gf
def z2l(a:Aut)(i k:Nat):eqS a i k=(lkN (U0 a) ((i:Int),(k:Int))).isNone:=rfl
def z0m(a:Aut)(ha:OkA a)(H:List AObj)(N M I:Nat)(i k:Nat)(hN:H[N]?=some (.vars [.mref M]))(hM:H[M]?=some (mpN (U0 a)))(hI:H[I]?=some (.vars [.i i]))(hb:NB a (U0 a))(hi:i<a.fin.length)(hk:k<a.fin.length):
  FC prog 179 [.i k,.vptr N 0,.vptr I 0] H (λr H'=>r= .bool (eqS a i k)/\H'=H):=by
 refine fcB func179 results179 ntmps179 ?_;simp only[Qd];rw[z2l];repeat(refine s_ ?_;simp[hN,hI])
 refine I6 rfl rfl rfl rfl (s:=((i:Int),(k:Int))) rfl (near:=U0 a) hM hb.nk (q0l ha ha ⟨Sr hi,Sr hk⟩) ?_;simp;repeat(refine s_ ?_;simp)
def x2p(E:Nat->Bool)(l:List Nat):q02 (λz:Int=>E z.toNat) (Ud l)=match l.findIdx? E with|some t=>(t:Int)|none=> -1:=by
 have:(Ud l).findIdx? (λz:Int=>E z.toNat)=l.findIdx? E:=by
  unfold Ud;rw[tP]
  congr 1
 show(match (Ud l).findIdx? (λz:Int=>E z.toNat)with|some i=>(i:Int)|none=> -1)=_;rw[this]
attribute [local irreducible] eqS
def w06(a:Aut)(ha:Dfa a):PC prog 117 [Yo a] (λr=>r=LI (Ud (clA a))):=by
 refine pcB func117 results117 ntmps117 ?_;simp only[Qd];simp only[Yo,Ww];have zq:=ha.ok.fin;repeat(refine s_ ?_;simp)
 refine Qm rfl rfl (q0z a ha.ok _) rfl ?_;rintro _ Y ⟨M,rfl,zz,zb,zr,hk⟩;simp;have y0:Y[0]?=some (.vars (Ww a)):=hk 0 (by simp);clear hk;have y1:=Qe zb;have y2:=Qe y0;have y0A:∀L,(Y++L)[0]?=some (.vars [.i a.types,.list (a.fin.map .bool),.list (a.mv.map encMv),.list (Ot a)]):=λL=>Qb y0 L;have y0H:∀L hh,(Y++L)[0]'hh= .vars [.i a.types,.list (a.fin.map .bool),.list (a.mv.map encMv),.list (Ot a)]:=λL hh=>(zZ hh).2 (y0A L);repeat(refine s_ ?_;simp[y0A,y0H])
 refine kpA [(1,.vptr 0 0),(2,.nils),(3,.vptr Y.length 0),(4,.nils),(5,.nils),(13,.i a.fin.length),(14,.i (0:Nat))] ?_;refine Qw 4 3 1 rfl ?_;simp;refine Qw 5 3 1 rfl ?_;simp;refine Q3 λZ hZ=>?_;have zM:Z[M]?=some (mpN (U0 a)):=by rw[hZ];exact Qb zb _
 have zN:Z[Y.length]?=some (.vars [.mref M]):=by rw[hZ,zF (by omega)];simp
 have zo:Z[Y.length+1]?=some (.arr 3 1 []):=by rw[hZ,zF (by omega)];simp
 have zf:Z[Y.length+2]?=some (.arr 3 1 []):=by rw[hZ,zF (by omega)];simp
 clear hZ y0A y0H y0;generalize Y.length=N at *;clear zb;clear Y
 have zc:Gf (eqS a) 0=([],[]):=by unfold Gf;rfl
 have zd:clA a=(Gf (eqS a) a.fin.length).2:=rfl;rw[zd];refine lpW (F:=λ(u:Nat×Nat×Nat×List AObj)=>⟨[(1,.vptr 0 0),(2,.nils),(3,.vptr N 0),(4,.sl u.2.1 1 0 (Gf (eqS a) u.1).2.length),(5,.sl u.2.2.1 1 0 (Gf (eqS a) u.1).1.length),(13,.i a.fin.length),(14,.i u.1)],u.2.2.2⟩)
  (λu=>u.1<=a.fin.length/\u.2.2.2[M]?=some (mpN (U0 a))/\u.2.2.2[N]?=some (.vars [.mref M])/\u.2.2.2[u.2.1]?=some (.arr 3 1 ((Ud (Gf (eqS a) u.1).2).map AV.i))/\u.2.2.2[u.2.2.1]?=some (.arr 3 1 ((Ud (Gf (eqS a) u.1).1).map AV.i))/\u.2.1≠u.2.2.1) (λu=>a.fin.length - u.1) ?_ (0,N+1,N+2,Z) ⟨xA _,zM,zN,by rw[zc];exact zo,by rw[zc];exact zf,by simp⟩ (by simp[zc])
 clear zM zN zo zf;clear Z;rintro⟨i,qo,q9,G⟩ ⟨hi,gM,gN,go,gf,ze⟩ ih;simp only at hi gM gN go gf ze ih |-;have z7:=w0x (q2s ha) i hi;have zg:=z7.len;have zh:(Gf (eqS a) i).1.length<=i:=by have zt:(Gf (eqS a) i).1.Nodup:=z7.asc.imp λh=>Nat.ne_of_lt h;have:=Yd _ (yQ i) zt λx hx=>yU.2 (z7.lt x hx);simpa using this
 have z8:=z7.lt;repeat(refine s_ ?_;simp)
 refine Qa rfl (λzu=>?_) (λzv=>?_)
 ·have zi:i<a.fin.length:=by simpa using zu
  have hw:=wz i (by omega);have zm:=w0a (eqS a) i;have z1:=λq' q2 H'=>ih (i+1,q',q2,H');simp only[zm]at z1;unfold Vm at z1;generalize Gf (eqS a) i=st at *
  obtain⟨fs,out⟩:=st;simp only at z1 zg zh z8 go gf;clear z7 zm;repeat(refine s_ ?_;simp)
  have y3:=Qe gN;have y4:=Qe go;have y5:=Qe gf;refine Qm rfl rfl (x10 (G++[AObj.vars [AV.i (i:Int)]]) q9 (Ud fs) 179 [.vptr N 0,.vptr G.length 0] (λz=>eqS a i z.toNat) (Qb gf _) fs.length (by simp) (by simp;omega) (λz hz=>by
   obtain⟨k,hk,rfl⟩:=zO.1 hz;have y6:=z8 k hk;exact z0m a ha.ok _ N M G.length i k (Qb gN _) (Qb gM _) (by simp) zr zi (by omega))) rfl ?_
  rintro _ _ ⟨rfl,rfl⟩;rw[x2p];simp;have kI:(G++[AObj.vars [AV.i (i:Int)]])[G.length]?=some (.vars [.i i]):=by simp
  have kM:(G++[AObj.vars [AV.i (i:Int)]])[M]?=some (mpN (U0 a)):=Qb gM _;have kN:(G++[AObj.vars [AV.i (i:Int)]])[N]?=some (.vars [.mref M]):=Qb gN _;have ko:(G++[AObj.vars [AV.i (i:Int)]])[qo]?=some (.arr 3 1 ((Ud out).map AV.i)):=Qb go _;have kf:(G++[AObj.vars [AV.i (i:Int)]])[q9]?=some (.arr 3 1 ((Ud fs).map AV.i)):=Qb gf _;generalize G.length=I at *;generalize G++[AObj.vars [AV.i (i:Int)]]=Y at *
  have z6:((Ud out).map AV.i).length=out.length:=by simp
  have za:((Ud fs).map AV.i).length=fs.length:=by simp
  have zn:qo≠M:=λe=>by rw[e,kM]at ko;simp[mpN]at ko
  have zp:qo≠N:=λe=>by rw[e,kN]at ko;simp at ko
  have zw:q9≠M:=λe=>by rw[e,kM]at kf;simp[mpN]at kf
  have zx:q9≠N:=λe=>by rw[e,kN]at kf;simp at kf
  have y7:q9≠I:=λe=>by rw[e,kI]at kf;simp at kf
  have mo:∀c:Nat,(Ud (out++[c])).map AV.i=(Ud out).map AV.i++[.i c]:=λc=>by simp
  have mf:∀c:Nat,(Ud (fs++[c])).map AV.i=(Ud fs).map AV.i++[.i c]:=λc=>by simp
  cases hix:fs.findIdx? (eqS a i)with
  |some t=>
   rw[hix]at z1;simp only[mo]at z1;generalize (Ud out).map AV.i=ao at *
   repeat(refine s_ ?_;simp)
   refine Qa rfl (λh=>by first|(simp at h;done)|(simp at h;omega)) (λ_=>?_);repeat(refine s_ ?_;simp)
   refine apS T47 T3 ?_;simp[Qb ko,Qg ko,z6];refine⟨by simp[Wo,Qb ko,Qg ko,z6]<;>omega,?_⟩;repeat(refine s_ ?_;simp[hw])
   refine lkA [(1,.vptr 0 0),(2,.nils),(3,.vptr N 0),(4,.sl (Y.length+1) 1 0 (out++[t]).length),(5,.sl q9 1 0 fs.length),(13,.i a.fin.length),(14,.i (i+1:Nat))] ?_;refine z1 (Y.length+1) q9 _ ⟨by omega,Qb (Qc zn kM _) _,Qb (Qc zp kN _) _,?_,Qb (Qc ze kf _) _,by have:=Qe kf;omega⟩ (by omega);rw[zF (by simp)];simp
  |none=>
   rw[hix]at z1;simp only[mo,mf]at z1;generalize (Ud out).map AV.i=ao at *;generalize (Ud fs).map AV.i=af at *
   repeat(refine s_ ?_;simp)
   refine Qa rfl (λ_=>?_) (λh=>by first|(simp at h;done)|(simp at h;omega));repeat(refine s_ ?_;simp[kI])
   refine apS T47 T3 ?_;simp[Qb kf,Qg kf,za];refine⟨by simp[Wo,Qb kf,Qg kf,za]<;>omega,?_⟩;refine Q3 λZ hZ=>?_;have zM:Z[M]?=some (mpN (U0 a)):=by rw[hZ];exact Qb (Qc zw kM _) _
   have zN:Z[N]?=some (.vars [.mref M]):=by rw[hZ];exact Qb (Qc zx kN _) _
   have zo:Z[qo]?=some (.arr 3 1 ao):=by rw[hZ];exact Qb (Qc (Ne.symm ze) ko _) _
   have zf:Z[Y.length+1]?=some (.arr 3 1 (af++[.i i])):=by rw[hZ,zF (by simp)];simp
   have zj:qo≠Y.length+1:=by have:=Qe ko;omega
   clear hZ;generalize Y.length+1=qf2 at *
   repeat(refine s_ ?_;simp)
   refine apS T47 T3 ?_;simp[Qb zo,Qg zo,z6];refine⟨by simp[Wo,Qb zo,Qg zo,z6]<;>omega,?_⟩;repeat(refine s_ ?_;simp[hw])
   refine lkA [(1,.vptr 0 0),(2,.nils),(3,.vptr N 0),(4,.sl (Z.length+1) 1 0 (out++[fs.length]).length),(5,.sl qf2 1 0 (fs++[i]).length),(13,.i a.fin.length),(14,.i (i+1:Nat))] ?_;refine z1 (Z.length+1) qf2 _ ⟨by omega,Qb (Qc zn zM _) _,Qb (Qc zp zN _) _,?_,Qb (Qc zj zf _) _,by have:=Qe zf;omega⟩ (by omega);rw[zF (by simp)];simp
 have zk:i=a.fin.length:=by simp at zv;omega
 subst zk;have zy:((Ud (Gf (eqS a) a.fin.length).2).map AV.i).length=(Gf (eqS a) a.fin.length).2.length:=by simp
 generalize zl:(Ud (Gf (eqS a) a.fin.length).2).map AV.i=acc at *
 repeat(refine s_ ?_;simp[go,zy])
 rw[zT (by omega),<-zl];simp
end
section
open Go Go.Proofs Go.Maps Go.RowKit
@[simp] theorem encMac_pure (a:Aut):(Yo a).pure=true:=by simp[Yo,Ww,Ot,Uf,AV.pure]
attribute [local irreducible] Dq Fu Wz Re Ot Ee Ys lkN U0 Gf clA Ji
end
section
open Go Go.Proofs Go.RowKit Go.Shelf Go.Lib Go.Sort
abbrev BIv:={ x:Iv // Fc x }
instance:Inhabited BIv:=⟨⟨⟨0,0⟩,by unfold Fc inB;decide⟩⟩
def q2j(x:BIv):List Value:=Xk x.1
def k26(x y:BIv):Int:=x.1.lo - y.1.lo
def z0b(x y:BIv)(W:World):Calls prog 203 #[.agg #[.int .i64 x.1.lo,.int .i64 x.1.hi],.agg #[.int .i64 y.1.lo,.int .i64 y.1.hi]] W λe w'=>e= .returned (.int .i64 (k26 x y))/\∃q os',w'=grow (W.drewN q) os':=by
 have h1:=(E4 _).1 x.2.1;have h2:=(E4 _).1 y.2.1;have hw:IntKind.i64.wrap (x.1.lo - y.1.lo)=k26 x y:=wrap_i64 _ (by omega) (by omega)
 go_enter func203,ntmps203
 go_wp2
 go_ret
 exact⟨rfl,0,_,by rw[alloc_eq_grow,alloc_eq_grow,grow_grow];rfl⟩
def u14(x y:BIv):ltOf k26 x y=decide (x.1.lo<y.1.lo):=by unfold ltOf k26;rw[x_];simp;omega
def d2m:SWO (ltOf k26) where
 irrefl x:=by rw[u14];simp
 trans x y z h1 h2:=by rw[u14]at *;simp at *;omega
 ntrans x y z h1 h2:=by rw[u14]at *;simp at *;omega
def w3e(l:List BIv):RowOf 2 ((l.map (·.1)).map encIv) (flatK q2j 2 l.toArray) where
 size:=by simp
 width x hx:=by obtain⟨y,_,rfl⟩:=zO.1 hx;rfl
 cell i x hx j y hy:=by
  rw[zU,zU]at hx;obtain⟨z0,z1,rfl⟩:=zQ.1 hx;obtain⟨z,hz,rfl⟩:=zQ.1 z1;obtain⟨hi,rfl⟩:=zB.1 hz;have hj:j<2:=(zB.1 hy).1;rw[get_flatK _ _ _ _ (by simp;omega)];rw[show(i * 2+j) / 2=i by omega,show(i * 2+j) % 2=j by omega];rw[getElem!_pos l.toArray i (by simpa using hi)]
  match j,hj with
  |0,_=>simp[encIv,AV.cells]at hy;subst hy;rfl
  |1,_=>simp[encIv,AV.cells]at hy;subst hy;rfl
def y1t(H:List AObj)(p:Nat)(l:List BIv)(hp:H[p]?=some (.arr 144 2 ((l.map (·.1)).map encIv)))(hl:l.length<=1000000):
  FC prog 174 [.sl p 2 0 l.length,.fn (.func 203) [] []] H
   (λr H'=>r= .tup []/\∃l':List BIv,l'.Perm l/\Xx (l'.map (·.1))/\H'=H.set p (.arr 144 2 ((l'.map (·.1)).map encIv))):=by
 refine(z13 (xs:=(l.map (·.1)).map encIv) (Ts func174 rfl rfl) (by simp) hp (w3e l) [.func (.func 203) #[] #[]] (λw I m vs a b=>K4 _ w I m _ vs a b) (λz1=>∃l':List BIv,l'.Perm l/\Xx (l'.map (·.1))/\z1=(l'.map (·.1)).map encIv) ?_ ?_).mono ?_
 ·intro b cap w hH hb hc;have eg:∀args w,(callFunc 203 args).run prog w= .ok (.enter 203 args) w:=enters_of func203 (by kernel_rfl) rfl;have:=AnyQ.slices_SortFunc Tryz.sortIv 2 isAgg144 sizeOf144 q2j (λ_=>rfl) (λx v hv=>by simp[q2j,Xk]at hv;rcases hv with rfl|rfl<;>rfl) k26 d2m 203 #[] b 0 cap l.toArray w eg (λ_ _ _ _ x y=>z0b x y _) hH hb (by simp;omega);change Calls prog 174 _ _ _ at this;rw[show(l.toArray).size=l.length by simp]at this;refine Calls.mono (this) ?_;rintro e w' ⟨rfl,d',n,os,h1,h2,rfl⟩;obtain⟨s1,_,s3⟩:=h1;have hs:d'.toList.length=l.length:=by simpa using s1
  refine⟨rfl,(d'.toList.map (·.1)).map encIv,flatK q2j 2 d',n,os,⟨d'.toList,?_,?_,rfl⟩,by simp[hs],by simpa using w3e d'.toList,rfl⟩
  ·rw[show d'.extract 0 l.length=d' by simp[<-hs],show l.toArray.extract 0 l.length=l.toArray by simp]at s3;simpa using s3
  refine xK.2 (yK.2 λi j hi hj z6=>?_);have:=h2 i j (xA _) z6 (by omega);rw[u14,getElem!_pos d' i (by simpa using hi),getElem!_pos d' j (by simpa using hj)]at this;simpa using this
 ·rintro h;have z7:l=[]:=by
   cases l with
   |nil=>rfl
   |cons x r=>simp at h
  subst z7;exact⟨⟨[],.refl _,.nil,rfl⟩,λw=>AnyF.slices_SortFunc_none Tryz.sortIv none 0 _ w⟩
 rintro r H' ⟨rfl,z1,⟨l',h1,h2,rfl⟩,rfl⟩;exact⟨rfl,l',h1,h2,rfl⟩
def g1s(H:List AObj)(p:Nat)(l:List Iv)(hp:H[p]?=some (.arr 144 2 (l.map encIv)))(hl:l.length<=1000000)(z1:∀y∈l,Fc y):
  FC prog 174 [.sl p 2 0 l.length,.fn (.func 203) [] []] H
   (λr H'=>r= .tup []/\∃l':List Iv,l'.Perm l/\Xx l'/\H'=H.set p (.arr 144 2 (l'.map encIv))):=by
 have hb:(l.attach.map λx=>(⟨x.1,z1 x.1 x.2⟩:BIv)).map (·.1)=l:=by simp
 have:=y1t H p (l.attach.map λx=>(⟨x.1,z1 x.1 x.2⟩:BIv)) (by rw[hb];exact hp) (by simpa using hl);rw[show(l.attach.map λx=>(⟨x.1,z1 x.1 x.2⟩:BIv)).length=l.length by simp]at this;refine this.mono ?_;rintro r H' ⟨rfl,l',h1,h2,rfl⟩;refine⟨rfl,l'.map (·.1),?_,h2,rfl⟩;have:=h1.map (·.1)
 rwa [hb]at this
end
section
open Go Go.Proofs Go.Maps Go.RowKit
attribute [local irreducible] W4 Qz Rg Qq Oh Gb
def y10(T:Nat)(l:List Prd)(hT:T<=16)(hl:∀p∈l,PWf T p)(hn:∀i,i<T->(Qq l i).length<=1000000)(ye:l.length<=1000000):PC prog 139 [.i T,LP l] (λr=>r=encP (Oh T l)):=by
 refine pcB func139 results139 ntmps139 ?_;simp only[Qd];simp only[encP];repeat(refine s_ ?_;simp)
 refine Ez tOk rfl rfl rfl T68 rfl P6 rfl rfl rfl (n:=T) (by simp;omega) (by unfold maxLen;omega) .nils rfl ?_;simp;repeat(refine s_ ?_;simp)
 rw[Jj (λk=>Rg (Qq l k))];refine lpV (F:=λ(u:Nat×List AObj)=>⟨[(0,.i T),(1,LP l),(4,.vptr 0 0),(5,.vptr 2 0),(17,.i T),(18,.i u.1)],u.2⟩)
  (λu=>u.1<=T/\3<=u.2.length/\u.2[0]?=some (.vars [.nils])/\u.2[1]?=some (.arr 145 1 (Gb (λk=>Rg (Qq l k)) T u.1))/\u.2[2]?=some (.vars [.sl 1 1 0 T])) (λu=>T - u.1) ?_ (0,_) ⟨by simp,by simp,rfl,rfl,rfl⟩
 rintro⟨i,H2⟩ ⟨hi,hH,g0,g1,g2⟩ ih;simp only at hi hH g0 g1 g2 ih |-;repeat(refine s_ ?_;simp)
 refine Qa rfl (λy3=>?_) (λy4=>?_)
 ·have z7:i<T:=by simpa using y3
  have hw:=wz i (by omega);have zd:=C5 (λk=>Rg (Qq l k)) z7;have zq:=Vs (λk=>Rg (Qq l k)) z7;have y5:=Bd (λk=>Rg (Qq l k)) T i;have zh:=hn i z7;have zr:=λH'=>ih (i+1,H');simp only[<-zd]at zr;clear zd;generalize Gb (λk=>Rg (Qq l k)) T i=row at *
  repeat(refine s_ ?_;simp)
  refine kpA [(0,.i T),(1,LP l),(4,.vptr 0 0),(5,.vptr 2 0),(6,.i i),(7,.nils),(17,.i T),(18,.i i),(21,LP l),(22,.i l.length),(23,.i (0:Nat))] ?_;refine Qw 7 144 2 rfl ?_;simp;have hst:=SL.start H2 144 2;refine lpW (F:=λ(u:Nat×Nat×List AObj)=>⟨[(0,.i T),(1,LP l),(4,.vptr 0 0),(5,.vptr 2 0),(6,.i i),(7,.sl u.2.1 2 0 (Qq (l.take u.1) i).length),(17,.i T),(18,.i i),(21,LP l),(22,.i l.length),(23,.i u.1)],u.2.2⟩)
   (λu=>u.1<=l.length/\SL H2 u.2.2 u.2.1 144 2 ((Qq (l.take u.1) i).map encIv)) (λu=>l.length - u.1) ?_ (0,H2.length,_) ⟨xA _,by rw[wB,Ig];exact hst⟩ (by simp[Ig])
  rintro⟨j,q,G⟩ ⟨hj,g⟩ ih2;simp only at hj g ih2 |-;repeat(refine s_ ?_;simp)
  refine Qa rfl (λza=>?_) (λzb=>?_)
  ·have z1:j<l.length:=by simpa using za
   have ze:=wz j (by omega);have hp:=hl _ (zL z1);have zi:i<l[j].length:=by rw[hp.1];exact z7
   have zc:=Sb z1 zi;have zj:(Qq (l.take (j+1)) i).length<=1000000:=by refine yP ?_ zh;unfold Qq;rw[<-xI (j+1) l,wV,zW,xI];omega
   rw[zc,zW]at zj;have z6:=λq' G'=>ih2 (j+1,q',G');simp only[zc]at z6;clear zc;have zt:(uG encP l)[j]?=some (encP l[j]):=by simp[z1]
   have zu:∀hh,(uG encP l)[j]'hh=encP l[j]:=λhh=>by simp
   generalize l[j]=pj at *
   have y6:(pj.map encL)[i]?=some (encL pj[i]):=by simp[zi]
   have y7:∀hh,(pj.map encL)[i]'hh=encL pj[i]:=λhh=>by simp
   generalize pj[i]=s at *;generalize Qq (l.take j) i=acc at *
   have zv:(acc.map encIv).length=acc.length:=by simp
   simp only[encP]at zt zu;repeat(refine s_ ?_;simp[zt,zu,z1,zi,y6,y7])
   have g2:=g.add [.vars [.list (pj.map encL)]];generalize G++[AObj.vars [.list (pj.map encL)]]=Y at *;generalize zk:acc.map encIv=ac at *;refine apS P6 L1 ?_
   simp[Qb g2.arr,Qg g2.arr,g2.arr,zv];refine⟨⟨λy hy=>?_,by simp[zv];omega⟩,?_⟩
   ·obtain⟨x,_,rfl⟩:=zO.1 hy;exact⟨rfl,rfl⟩
   repeat(refine s_ ?_;simp[ze])
   refine lkA [(0,.i T),(1,LP l),(4,.vptr 0 0),(5,.vptr 2 0),(6,.i i),(7,.sl Y.length 2 0 (acc++s).length),(17,.i T),(18,.i i),(21,LP l),(22,.i l.length),(23,.i (j+1:Nat))] ?_;refine z6 Y.length _ ⟨by omega,?_⟩ (by omega);rw[yR,zk];exact g2.put [] (ac++s.map encIv) (by simp)
  have z8:j=l.length:=by simp at zb;omega
  subst z8;rw[zY]at g |-;have zl:∀y∈Qq l i,Fc y/\y.lo<=y.hi:=λy hy=>Mw hl hy;generalize yf:Qq l i=L at *
  have zm:=g.ge;repeat(refine s_ ?_;simp)
  refine Qm rfl rfl (g1s G q L g.arr zh (λy hy=>(zl y hy).1)) rfl ?_;rintro r H' ⟨rfl,l',h1,h2,rfl⟩;simp;have hl':l'.length<=1000000:=by rw[h1.length_eq];exact zh
  have y8:=h1.length_eq;have zn:∀y∈l',Fc y:=λy hy=>(zl y (h1.mem_iff.1 hy)).1;have zf:=G5 L l' (λy hy=>(zl y hy).2) h1 h2;rw[<-y8];have gq:=Qf g.arr (.arr 144 2 (l'.map encIv));have gk:∀j,j<H2.length->(G.set q (.arr 144 2 (l'.map encIv)))[j]? =H2[j]? :=λj hj=>by rw[zE (by omega)];exact g.keep j hj
  generalize G.set q (.arr 144 2 (l'.map encIv))=G1 at *
  repeat(refine s_ ?_;simp)
  refine kpA [(0,.i T),(1,LP l),(4,.vptr 0 0),(5,.vptr 2 0),(6,.i i),(10,.nils),(17,.i T),(18,.i i),(37,.sl q 2 0 l'.length),(38,.i l'.length),(39,.i (0:Nat))] ?_;refine W3 q gq ?_;simp[AV.fz];rw[zT (by simp)];have y9:∀j,j<H2.length->(G1.set q .dead)[j]? =H2[j]? :=λj hj=>by rw[zE (by omega)];exact gk j hj
  have yg:H2.length<=(G1.set q .dead).length:=by have:=Qe gq;simp;omega
  generalize G1.set q .dead=K at *;refine Qw 10 144 2 rfl ?_
  simp;have hst:=SL.start K 144 2;refine lpW (F:=λ(u:Nat×Nat×List AObj)=>⟨[(0,.i T),(1,LP l),(4,.vptr 0 0),(5,.vptr 2 0),(6,.i i),(10,.sl u.2.1 2 0 (Qz [] (l'.take u.1)).length),(17,.i T),(18,.i i),(37,LIv l'),(38,.i l'.length),(39,.i u.1)],u.2.2⟩)
   (λu=>u.1<=l'.length/\SL K u.2.2 u.2.1 144 2 ((Qz [] (l'.take u.1)).map encIv)) (λu=>l'.length - u.1) ?_ (0,K.length,_) ⟨xA _,by rw[wB,Qz,List.foldl_nil];exact hst⟩ (by simp[Qz])
  clear g gq gk ih2 hst zm;clear G G1 q;rintro⟨j,p,G⟩ ⟨hj,g⟩ ih2;simp only at hj g ih2 |-;repeat(refine s_ ?_;simp)
  refine Qa rfl (λza=>?_) (λzb=>?_)
  ·have z1:j<l'.length:=by simpa using za
   have ze:=wz j (by omega);have zd:Qz [] (l'.take (j+1))=W4 (Qz [] (l'.take j)) l'[j]:=by rw[zR z1,Sm]
   have zw:(Qz [] (l'.take j)).length<=j:=yP (Th _ _) (by simp;omega);have zo:∀y∈Qz [] (l'.take j),Fc y:=D5 _ _ (by simp) (λy hy=>zn y (List.mem_of_mem_take hy));have z6:=λp' G'=>ih2 (j+1,p',G');simp only[zd]at z6;clear zd;generalize Qz [] (l'.take j)=acc at *;generalize hx:l'[j]=x at *
   repeat(refine s_ ?_;simp[z1,hx])
   rcases List.eq_nil_or_concat acc with rfl|⟨ini,y,rfl⟩
   ·refine drT [] (.pv 0 14 (.done)) ?_;simp;refine Qk rfl ?_;simp;repeat(refine s_ ?_;simp)
    refine apS P6 L1 ?_;simp[Qb g.arr,Qg g.arr];refine⟨by simp[Wo,Qb g.arr,Qg g.arr]<;>omega,?_⟩;repeat(refine s_ ?_;simp[ze])
    refine lkA [(0,.i T),(1,LP l),(4,.vptr 0 0),(5,.vptr 2 0),(6,.i i),(10,.sl (G.length+2) 2 0 1),(17,.i T),(18,.i i),(37,LIv l'),(38,.i l'.length),(39,.i (j+1:Nat))] ?_;have:=z6 (G.length+2) _ ⟨by omega,by rw[W4];exact g.put [AObj.vars [AV.i x.lo,AV.i x.hi],AObj.arr 144 2 [encIv x]] _ rfl⟩ (by omega);rw[W4]at this;simpa using this
   have yh:=(E4 _).1 (zo y (by simp)).2;have zx:IntKind.i64.wrap (y.hi+1)=y.hi+1:=wrap_i64 _ (by omega) (by omega);have gA:=g.arr;rw[List.concat_eq_append]at g gA z6 zw |-;have hlen:(ini++[y]).length=ini.length+1:=by simp
   rw[hlen]at zw |-;have zy:IntKind.i64.wrap (ini.length:Int)=ini.length:=wrap_i64 _ (by omega) (by omega);have hg:((ini++[y]).map encIv)[ini.length]?=some (encIv y):=by simp
   have zg:(ini.length:Int)<ini.length+1:=by omega
   refine drT [] (.pv 0 14 (.done)) ?_;simp[Qb gA,zy,hg,zx,zg];refine Qa rfl (λh1=>?_) (λh1=>?_)
   ·repeat(refine s_ ?_;simp)
    refine drT [14] (.pv 0 14 (.one 14 (.done))) ?_;simp[Qb gA,zy,hg,zx,zg,Qg gA];repeat(refine s_ ?_;simp[ze])
    have hR:W4 (ini++[y]) x=ini++[⟨y.lo,if y.hi<x.hi then x.hi else y.hi⟩]:=by rw[Ej,if_pos (by simpa using h1)]
    rw[hR]at z6;refine lkA [(0,.i T),(1,LP l),(4,.vptr 0 0),(5,.vptr 2 0),(6,.i i),(10,.sl p 2 0 (ini.length+1)),(17,.i T),(18,.i i),(37,LIv l'),(38,.i l'.length),(39,.i (j+1:Nat))] ?_;have:=z6 p _ ⟨by omega,g.upd [AObj.vars [AV.i x.lo,AV.i x.hi]] _⟩ (by omega);simpa using this
   repeat(refine s_ ?_;simp)
   refine apS P6 L1 ?_;simp[Qb gA,Qg gA];refine⟨by simp[Wo,Qb gA,Qg gA]<;>omega,?_⟩;repeat(refine s_ ?_;simp[ze])
   have hR:W4 (ini++[y]) x=ini++[y]++[x]:=by rw[Ej,if_neg (by simpa using h1)]
   rw[hR]at z6;refine lkA [(0,.i T),(1,LP l),(4,.vptr 0 0),(5,.vptr 2 0),(6,.i i),(10,.sl (G.length+2) 2 0 (ini.length+2)),(17,.i T),(18,.i i),(37,LIv l'),(38,.i l'.length),(39,.i (j+1:Nat))] ?_;have:=z6 (G.length+2) _ ⟨by omega,g.put [AObj.vars [AV.i x.lo,AV.i x.hi],AObj.arr 144 2 [encIv x]] _ rfl⟩ (by omega);simpa using this
  have z8:j=l'.length:=by simp at zb;omega
  subst z8;rw[zY,zf]at g |-;refine W3 p g.arr ?_;simp[AV.fz];rw[zT (by simp)];have yi:=Qe g.arr;have ya:=g.ge;have yk:∀j,j<H2.length->(G.set p .dead)[j]? =H2[j]? :=λj hj=>by rw[zE (by omega),g.keep j (by omega)];exact y9 j hj
  have yl:3<=(G.set p .dead).length:=by simp;omega
  generalize G.set p .dead=Y at *
  have y0:=(yk 0 (by omega)).trans g0;have y1:=(yk 1 (by omega)).trans g1;have y2:=(yk 2 (by omega)).trans g2;have y1H:∀hh,Y[1]'hh= .arr 145 1 row:=λhh=>(zZ hh).2 y1;have yb:∀hh,row[i]'hh= .nils:=λhh=>(zZ hh).2 zq;repeat(refine s_ ?_;simp[y1,y2,y1H,z7,y5,zq,yb,hw])
  exact lkB (zr _ ⟨by omega,by simp;omega,Qc (by decide) y0 _,Qf y1 _,Qc (by decide) y2 _⟩ (by omega))
 have zp:i=T:=by simp at y4;omega
 subst zp;rw[Hw]at *
 have yc:(yQ i).map (λk=>Rg (Qq l k))=Oh i l:=by unfold Oh;rfl
 rw[yc]at *;refine Q0 1 g1 2 g2 ?_
 have zz:=u0q i l;have e0:∀Y,((H2.set 1 AObj.dead).set 2 Y)[0]?=some (AObj.vars [AV.nils]):=λY=>Qc (by decide) (Qc (by decide) g0 _) _;have yd:∀Y hh,((H2.set 1 AObj.dead).set 2 Y)[0]'hh=AObj.vars [AV.nils]:=λY hh=>by have:=e0 Y;rw[zI hh]at this;exact Option.some.inj this
 have e2:∀Y,((H2.set 1 AObj.dead).set 2 Y)[2]?=some Y:=λY=>Qf (Qc (by decide) g2 _) _;have e3:∀Y Z,(((H2.set 1 AObj.dead).set 2 Y).set 0 Z)[0]?=some Z:=λY Z=>Qf (e0 Y) _;simp[zz];rw[zT (by simp[zz])];repeat(refine s_ ?_;simp[e0,yd,e2,e3])
 unfold Oh;rw[vE]
end
section
open Go Go.Proofs Go.Maps
attribute [local irreducible] Wu
def u0o(a b:Aut):PC prog 59 [encA a,encA b] (λr=>r= .i (Em a b)):=by
 refine pcB func59 results59 ntmps59 ?_;simp only[Qd];have cA:=Tm a;have cB:=Tm b;simp only[encA]at cA cB |-;obtain⟨R,hR⟩:∃R,Em a b=R:=⟨_,rfl⟩
 rw[hR];unfold Em at hR;repeat(refine s_ ?_;simp)
 refine pcL (cA) ?_;simp;repeat(refine s_ ?_;simp)
 refine Qa rfl (λh=>?_) (λh=>?_)
 ·rw[if_pos (by simpa using h)]at hR;subst hR;repeat(refine s_ ?_;simp)
 rw[if_neg (by simpa using h)]at hR;repeat(refine s_ ?_;simp)
 refine pcL (cB) ?_;simp;repeat(refine s_ ?_;simp)
 refine Qa rfl (λh2=>?_) (λh2=>?_)
 ·rw[if_pos (by simpa using h2)]at hR;subst hR;repeat(refine s_ ?_;simp)
 rw[if_neg (by simpa using h2)]at hR;repeat(refine s_ ?_;simp)
 refine Qa rfl (λh3=>?_) (λh3=>?_)
 ·rw[if_pos (by simpa using h3)]at hR;subst hR;repeat(refine s_ ?_;simp)
 rw[if_neg (by simpa using h3)]at hR;subst hR;repeat(refine s_ ?_;simp)
def k09(a:Aut):Aut×Int:=if 256<a.fin.length\/2048<a.mv.length then(⟨0,[],[]⟩,5)else(a,0)
def y0d(a:Aut):PC prog 97 [encA a] (λr=>r= .tup [encA (k09 a).1,.i (k09 a).2]):=by
 refine pcB func97 results97 ntmps97 ?_;simp only[Qd];simp only[encA];refine Wv 0 1 rfl rfl (λh1=>?_);refine Wv 0 2 rfl rfl (λh2=>?_);rw[yE]at h1 h2;obtain⟨R,hR⟩:∃R,k09 a=R:=⟨_,rfl⟩
 rw[hR];unfold k09 at hR;by_cases c1:256<a.fin.length
 ·rw[if_pos (.inl c1)]at hR;subst hR;repeat(refine s_ ?_;simp[c1])
  refine Qa rfl (λ_=>?_) (λh=>by first|(simp at h;done)|(simp at h;omega));repeat(refine s_ ?_;simp)
 by_cases c2:2048<a.mv.length
 ·rw[if_pos (.inr c2)]at hR;subst hR;repeat(refine s_ ?_;simp[c1,c2])
  refine Qa rfl (λ_=>?_) (λh=>by first|(simp at h;done)|(simp at h;omega));repeat(refine s_ ?_;simp)
 rw[if_neg (by omega)]at hR;subst hR;repeat(refine s_ ?_;simp[c1,c2])
 refine Qa rfl (λh=>by first|(simp at h;done)|(simp at h;omega)) (λ_=>?_);repeat(refine s_ ?_;simp)
def g0a(l:List Iv)(hl:l.length<=1000000):PC prog 163 [encL l] (λr=>r=encL l):=by
 refine pcB func163 results163 ntmps163 ?_;simp only[Qd];repeat(refine s_ ?_;simp)
 refine Si tOk rfl rfl P6 rfl rfl rfl (λb z1=>?_);simp;refine Qa rfl (λh=>?_) (λh=>?_)
 ·subst h;have:l=[]:=by
   cases l
   ·rfl
   have:=z1 (by simp);cases this
  subst this;repeat(refine s_ ?_;simp)
 repeat(refine s_ ?_;simp)
 refine apS P6 L1 ?_;simp;refine⟨by simp[Wo];omega,?_⟩;repeat(refine s_ ?_;simp)
 rw[zT (by simp)]
def Ld(p:Prd)(hn:p.length<=1000000)(hl:∀s∈p,s.length<=1000000):PC prog 95 [encP p] (λr=>r=encP p):=by
 refine pcB func95 results95 ntmps95 ?_;simp only[Qd];simp only[encP];repeat(refine s_ ?_;simp)
 refine Ez tOk rfl rfl rfl T68 rfl P6 rfl rfl rfl (n:=p.length) (by simp;omega) (by unfold maxLen;omega) .nils rfl ?_;simp;repeat(refine s_ ?_;simp)
 rw[Jj (λk=>p.getD k [])];obtain⟨F,hF⟩:∃F:Nat->List Iv,F=λk=>p.getD k []:=⟨_,rfl⟩
 rw[<-hF];refine Qr p.length (λ_=>True) (λj=>[(2,.vptr 1 0),(3,.sl 2 1 0 p.length),(11,.list (p.map encL)),(12,.i p.length),(13,.i j)]) (λj=>[.vars [.list (p.map encL)],.vars [.nils],.arr 145 1 (Gb F p.length j)]) rfl (by simp) (by simp) (by simp) (by simp) trivial ?_;intro j hj _ ih;repeat(refine s_ ?_;simp)
 refine Qa rfl (λzc=>?_) (λzd=>?_)
 ·have z1:j<p.length:=by simpa using zc
  have hw:=wz j (by omega);have z8:(p.map encL)[j]?=some (encL (F j)):=by rw[hF];simp[z1]
  have ze:∀hh,(p.map encL)[j]'hh=encL (F j):=λhh=>(zZ hh).2 z8;have hle:(F j).length<=1000000:=by rw[hF];have:=hl _ (zL z1);simpa[z1]using this
  have cC:=g0a (F j) hle;have za:=Bd F p.length j;have zf:=C5 F z1;have zb:=Vs F z1;have zg:∀hh,(Gb F p.length j)[j]'hh= .nils:=λhh=>(zZ hh).2 zb;repeat(refine s_ ?_;simp[z8,ze,z1,za])
  refine pcL (cC) ?_;simp[za,zb,zg,z1];repeat(refine s_ ?_;simp[hw])
  rw[show AV.list ((F j).map encIv)=encL (F j) from rfl,zf];refine Qt _ (ih z1 trivial) rfl (by simp) ?_ (by simp) (by simp);simp
 have z6:j=p.length:=by simp at zd;omega
 rw[z6];have z7:Gb F p.length p.length=p.map encL:=by
  rw[Hw,hF]
  congr 1
  refine xT (by simp) λi h1 h2=>?_;have:i<p.length:=by simpa using h1
  simp[this]
 rw[z7];repeat(refine s_ ?_;simp)
 rw[zT (by simp)]
end
section
open Go Go.Proofs Go.Maps Go.RowKit
def mvT(a:Aut)(s:Int)(k:Nat):List Mv:=(a.mv.take k).filter λm=>decide (m.src=s)
def f1p(a:Aut)(s:Int):mvT a s 0=[]:=by simp[mvT]
def v2j(a:Aut)(s:Int):mvT a s a.mv.length=L0 a s:=by unfold mvT L0;rw[zY]
def q2e(a:Aut)(s:Int){k:Nat}(h:k<a.mv.length):mvT a s (k+1)=mvT a s k++(if a.mv[k].src=s then [a.mv[k]]else []):=by
 unfold mvT;rw[zR h,wZ]
 congr 1
 by_cases e:a.mv[k].src=s<;>simp[e]
def y2m(a:Aut)(s:Int)(k:Nat):∃r,L0 a s=mvT a s k++r:=by refine⟨(a.mv.drop k).filter λm=>decide (m.src=s),?_⟩;unfold mvT L0;rw[<-wZ,xI]
def Dk{a:Aut}{s:Int}{m:Mv}:m∈L0 a s↔m∈a.mv/\m.src=s:=by unfold L0;simp
attribute [local irreducible] mvT L0
def u0w (a:Aut) (hm:a.mv.length<=1000000) (s:Int) (l:Nat) {z1:Nat} {sl':List (Nat×AV)} {ps:List Tmp} {asg body:Code} (zh:ps.length=1) (zi:(ps.all λp=>decide (p<z1))=true)
  (Inv:List Mv->List AObj->Prop) (Done:Code->List AObj->Prop) (H0:List AObj)
  (hI:∀k H,Inv k H->H[l]?=some (.lp true none z1 sl' ps asg body))
  (z7:∀k H L,Inv k H->Inv k (H++L))
  (z6:∀pre e post H,L0 a s=pre++e::post->Inv pre H->H0.length<=H.length->AWP prog z1 H.length asg (Pf (AWP prog z1 H.length body (w0b l (λjm K2=>(jm=none/\Inv (pre++[e]) (K2.set l (.lp true none z1 sl' ps asg body))/\H.length<=K2.length)\/∃c,jm=some c/\Done c (K2.set l (.lp false (some c) z1 sl' ps asg body))))) (λ_ _=>False)) ⟨Rh sl' ps [encMv e],H.set l .dead⟩)
  (h0:Inv [] H0):FC prog 104 [.yld l,.iptr (Qj a),.iptr [.i s]] H0 (λ_ H'=>(Inv (L0 a s) H'/\H0.length<=H'.length)\/∃c,Done c H'):=by
 refine fcB func104 results104 ntmps104 ?_;simp only[Qd];repeat(refine s_ ?_;simp)
 have hz:=f1p a s;have zb:=v2j a s;have zj:=λk h=>q2e a s (k:=k) h;have zk:=λk=>y2m a s k;refine lpV (F:=λ(u:Nat×List AObj)=>⟨[(0,.yld l),(1,.iptr (Qj a)),(2,.iptr [.i s]),(7,.list (a.mv.map encMv)),(8,.i a.mv.length),(9,.i u.1)],u.2⟩)
  (λu=>u.1<=a.mv.length/\Inv (mvT a s u.1) u.2/\H0.length<=u.2.length) (λu=>a.mv.length - u.1) ?_ (0,H0) ⟨xA _,by rw[hz];exact h0,zS _⟩
 rintro⟨k,J⟩ ⟨hk,hv,hJ⟩ ih;simp only at hk hv hJ ih |-;repeat(refine s_ ?_;simp)
 refine Qa rfl (λzl=>?_) (λzm=>?_)
 ·have z8:k<a.mv.length:=by simpa using zl
  have hw:=wz k (by omega);have zf:=zj k z8;obtain⟨rr,zc⟩:=zk (k+1);rw[zf]at zc;have za:=λH'=>ih (k+1,H');simp only[zf]at za;repeat(refine s_ ?_;simp[z8])
  generalize a.mv[k]=m at *
  have zd:=z7 _ J [AObj.vars [.i m.src,.i m.dst,.list (m.on.map encL)]] hv;have zg:H0.length<=(J++[AObj.vars [.i m.src,.i m.dst,.list (m.on.map encL)]]).length:=by simp;omega
  have zo:(J++[AObj.vars [.i m.src,.i m.dst,.list (m.on.map encL)]])[J.length]?=some (.vars [.i m.src,.i m.dst,.list (m.on.map encL)]):=by simp
  generalize J++[AObj.vars [.i m.src,.i m.dst,.list (m.on.map encL)]]=J1 at *
  by_cases hms:m.src=s
  ·have hb:(m.src==s)=true:=by simpa using hms
   simp only[hb];rw[if_pos hms]at zc za;have zn:=z6 (mvT a s k) m rr J1 (by rw[zc];simp) zd zg;refine Tb rfl rfl (q:=l) rfl rfl (hI _ _ zd) zh zi rfl (λjm K2=>(jm=none/\Inv (mvT a s k++[m]) (K2.set l (.lp true none z1 sl' ps asg body))/\J1.length<=K2.length)\/∃c,jm=some c/\Done c (K2.set l (.lp false (some c) z1 sl' ps asg body))) zn ?_;rintro jm K2 (⟨rfl,hK,zp⟩|⟨c,rfl,hD⟩)
   ·simp;repeat(refine s_ ?_;simp)
    refine Qa rfl (λh=>by cases h) (λ_=>?_);repeat(refine s_ ?_;simp[hw])
    exact lkB (za _ ⟨by omega,hK,by simp;omega⟩ (by omega))
   simp;repeat(refine s_ ?_;simp)
   refine Qa rfl (λ_=>?_) (λh=>by cases h);repeat(refine s_ ?_;simp)
   exact .inr ⟨c,hD⟩
  have hb:(m.src==s)=false:=by simpa using hms
  simp only[hb];rw[if_neg hms,yV]at za;refine Wq rfl rfl ?_;simp;repeat(refine s_ ?_;simp)
  refine Qa rfl (λh=>by cases h) (λ_=>?_);repeat(refine s_ ?_;simp[hw])
  exact lkB (za J1 ⟨by omega,zd,zg⟩ (by omega))
 have ze:k=a.mv.length:=by simp at zm;omega
 subst ze;rw[zb]at hv;repeat(refine s_ ?_;simp)
 exact .inl ⟨hv,hJ⟩
end
section
open Go Go.Proofs Go.Maps Go.RowKit
attribute [local irreducible] A0
def u2j{p:Prd}(h0:A0 [p]=0):p.length<=16:=by
 unfold A0 at h0;by_cases hc:E9 p.length p=0
 ·have:=((Eg _ p).1 hc).1;omega
 rw[if_pos hc]at h0;exact absurd h0 hc
def z03{T:Nat}(hT:1<=T/\T<=16):∀l:List Prd,(∀p∈l,PCk T p)->A0 l=0
 |[],_=>by unfold A0;rfl
 |p::l,h=>by have hp:=h p (by simp);have hc:E9 p.length p=0:=(Eg _ p).2 ⟨by rw[hp.1];omega,by rw[hp.1];simpa using hp⟩;unfold A0;rw[if_neg (λk=>k hc)];exact z03 hT l λq hq=>h q (by simp[hq])
def v1j(p:Prd)(h0:A0 [p]=0):PC prog 124 [encP p] (λr=>r= .tup [.bool (Ws p),.i 0]):=by
 have hlen:=u2j h0;refine pcB func124 results124 ntmps124 ?_;simp only[Qd];simp only[encP];repeat(refine s_ ?_;simp)
 refine Ek 3 rfl ?_;simp;refine pcL (Ag [p]) ?_;simp;repeat(refine s_ ?_;simp)
 refine Qa rfl (λh=>by rw[h0]at h;simp at h) (λh=>?_);repeat(refine s_ ?_;simp)
 refine pcL (q0t p) ?_;simp;repeat(refine s_ ?_;simp)
 refine Eb rfl (Rf:=λ_ H'=>4<H'.length/\H'[1]?=some (.vars [.bool false])/\H'[2]?=some (.vars [.i 0])/\((Ws p=true/\∃sl' ps' a' b',H'[4]?=some (.lp true none 15 sl' ps' a' b'))\/(Ws p=false/\∃sl' ps' a' b',H'[4]?=some (.lp false (some Code.ret) 15 sl' ps' a' b')))) ?_ ?_
 ·simp;refine A9 λH1 z6=>?_;have f1:H1[1]?=some (.vars [.bool false]):=by rw[z6];rfl
  have f2:H1[2]?=some (.vars [.i 0]):=by rw[z6];rfl
  have f4:=congrArg (λh:List AObj=>h[4]?) z6;simp at f4;have za:H1.length=5:=by rw[z6];simp
  clear z6;refine fcB func188 results188 ntmps188 ?_;simp only[Qd];repeat(refine s_ ?_;simp)
  refine lpV (F:=λ(u:Nat)=>⟨[(0,.yld 4),(6,.list (p.map encL)),(7,.i p.length),(8,.i u)],H1⟩) (λu=>u<=p.length/\∀s∈p.take u,s=[]) (λu=>p.length - u) ?_ 0 ⟨by simp,by simp⟩;rintro j ⟨hj,hE⟩ ih;repeat(refine s_ ?_;simp)
  refine Qa rfl (λzb=>?_) (λzc=>?_)
  ·have z1:j<p.length:=by simpa using zb
   have hw:=wz j (by omega);by_cases hn:p[j]=[]
   ·repeat(refine s_ ?_;simp[z1,hn])
    refine Wq rfl rfl ?_;simp;refine Qk rfl ?_;simp;repeat(refine s_ ?_;simp[hw])
    refine Qo (sl':=[(0,.yld 4),(6,.list (p.map encL)),(7,.i p.length),(8,.i (j+1:Nat))]) (ih (j+1) ⟨by omega,λs hs=>?_⟩ (by omega)) (by simp);rw[zR z1]at hs;rcases zV.1 hs with hs|hs
    ·exact hE s hs
    rw[zP.1 hs];exact hn
   have hv:Ws p=false:=by unfold Ws;rw[List.all_eq_false];exact⟨p[j],zL _,by simpa using hn⟩
   have z7:0<p[j].length:=uI.2 hn;repeat(refine s_ ?_;simp[z1,z7])
   refine Tb rfl rfl (q:=4) rfl rfl f4 rfl rfl rfl (λjm K2=>jm=some Code.ret/\5<=K2.length/\K2[1]?=some (.vars [.bool false])/\K2[2]?=some (.vars [.i 0])) ?_ ?_
   ·simp[Rh];have e1:=Qc (j:=4) (by decide) f1 .dead;have e2:=Qc (j:=4) (by decide) f2 .dead;have e4:=Qf f4 .dead;have e6:(H1.set 4 .dead).length=5:=by simp[za]
    generalize H1.set 4 .dead=E at *
    have e3:∀y,(E.set 1 y)[2]?=some (.vars [.i 0]):=λy=>Qc (by decide) e2 y;repeat(refine s_ ?_;simp[e1,e2,e3])
    exact⟨Qc (by decide) (Qc (by decide) e4 _) _,rfl,by simp[e6],Qc (by decide) (Qf e1 _) _,Qf (e3 _) _⟩
   rintro jm K2 ⟨rfl,v1,v2,v3⟩;simp;repeat(refine s_ ?_;simp)
   have v6:4<K2.length:=by omega
   refine Qa rfl (λ_=>?_) (λh=>by cases h);repeat(refine s_ ?_;simp)
   exact⟨by omega,v2,v3,.inr ⟨hv,_,_,_,_,zK v6⟩⟩
  have z8:j=p.length:=by simp at zc;omega
  subst z8;rw[zY]at hE;have hv:Ws p=true:=by unfold Ws;rw[zX];exact λs hs=>by rw[hE s hs];rfl
  repeat(refine s_ ?_;simp)
  exact⟨by omega,f1,f2,.inl ⟨hv,_,_,_,_,f4⟩⟩
 rintro r H' ⟨hl,k1,k2,⟨hv,sl',ps',a',b',k4⟩|⟨hv,sl',ps',a',b',k4⟩⟩
 ·refine⟨_,_,_,_,_,_,_,k4,?_⟩;simp;have u1:=Qc (j:=4) (by decide) k1 .dead;have u2:=Qc (j:=4) (by decide) k2 .dead;generalize H'.set 4 .dead=E at *
  have u3:∀y,(E.set 1 y)[2]?=some (.vars [.i 0]):=λy=>Qc (by decide) u2 y;have u4:∀y z,((E.set 1 y).set 2 z)[1]?=some y:=λy z=>Qc (by decide) (Qf u1 y) z;have u5:∀y z,((E.set 1 y).set 2 z)[2]?=some z:=λy z=>Qf (u3 y) z;repeat(refine s_ ?_;simp[u1,u2,u3,u4,u5,hv])
 refine⟨_,_,_,_,_,_,_,k4,?_⟩;simp;have u1:=Qc (j:=4) (by decide) k1 .dead;have u2:=Qc (j:=4) (by decide) k2 .dead;generalize H'.set 4 .dead=E at *
 repeat(refine s_ ?_;simp[u1,u2,hv])
def j1p(p:Prd)(h0:A0 [p]=0):PC prog 61 [encP p] (λr=>r= .bool (Ws p)):=by
 refine pcB func61 results61 ntmps61 ?_;simp only[Qd];have cE:=v1j p h0;simp only[encP]at cE |-;repeat(refine s_ ?_;simp)
 refine pcL (cE) ?_;simp;repeat(refine s_ ?_;simp)
attribute [local irreducible] Y2
def X9(a:Aut)(hm:a.mv.length<=100000)(k:Int)(hk:0<=k/\k<=1000)(hs:∀m∈a.mv,(0<=m.src/\m.src<=1000)/\(0<=m.dst/\m.dst<=1000)/\m.on.length<=1000/\∀s∈m.on,s.length<=1000):PC prog 94 [encA a,.i k] (λr=>r= .list ((a.mv.map (Y2 k)).map encMv)):=by
 refine pcB func94 results94 ntmps94 ?_;simp only[Qd];simp only[encA];repeat(refine s_ ?_;simp)
 refine Qw 5 73 3 rfl ?_;simp;have hst:=SL.start [.vars (Qj a)] 73 3;have zc:∀m:Mv,encMv (Y2 k m)= .agg [.i (m.src+k),.i (m.dst+k),.list (m.on.map encL)]:=λm=>by unfold Y2;rfl
 refine lpV (F:=λ(u:Nat×Nat×List AObj)=>⟨[(1,.i k),(2,.vptr 0 0),(5,.sl u.2.1 3 0 u.1),(9,.list (a.mv.map encMv)),(10,.i a.mv.length),(11,.i u.1)],u.2.2⟩)
  (λu=>u.1<=a.mv.length/\SL [.vars (Qj a)] u.2.2 u.2.1 73 3 (((a.mv.take u.1).map (Y2 k)).map encMv)) (λu=>a.mv.length - u.1) ?_ (0,1,_) ⟨xA _,by simpa using hst⟩
 rintro⟨j,q,G⟩ ⟨hj,g⟩ ih;simp only at hj g ih |-;repeat(refine s_ ?_;simp)
 refine Qa rfl (λzd=>?_) (λze=>?_)
 ·have z1:j<a.mv.length:=by simpa using zd
  have hw:=wz j (by omega);have zf:(a.mv.take (j+1)).map (Y2 k)=(a.mv.take j).map (Y2 k)++[Y2 k a.mv[j]]:=by rw[zR z1,yR];rfl
  have z6:(((a.mv.take j).map (Y2 k)).map encMv).length=j:=by simp;omega
  have z7:=λq' G'=>ih (j+1,q',G');simp only[zf]at z7;obtain⟨m1,m2,m3,m4⟩:=hs _ (zL z1);have zh:=zc a.mv[j];have cC:=Ld a.mv[j].on (by omega) (λs hs=>by have:=m4 s hs;omega);repeat(refine s_ ?_;simp[z1])
  generalize a.mv[j]=m at *
  have z8:IntKind.i64.wrap (m.src+k)=m.src+k:=wrap_i64 _ (by omega) (by omega);have za:IntKind.i64.wrap (m.dst+k)=m.dst+k:=wrap_i64 _ (by omega) (by omega);generalize ((a.mv.take j).map (Y2 k))=acc at *;simp only[encP]at cC
  have zb:∀E:List AObj,(G++AObj.vars [.i m.src,.i m.dst,.list (m.on.map encL)]::E)[G.length]?=some (.vars [.i m.src,.i m.dst,.list (m.on.map encL)]):=λE=>by rw[zF (by simp)];simp
  refine drT [14] (.pv 0 11 (.one 11 (.val 12 (.one 13 (.one 14 (.val 15 (.done))))))) ?_;simp[zb,z8,za];refine pcL (cC) ?_;simp[zb,z8,za];refine apS T23 T73 ?_;simp[Qb g.arr,Qg g.arr,z6];refine⟨by simp[Wo,Qb g.arr,Qg g.arr,z6]<;>omega,?_⟩;repeat(refine s_ ?_;simp[hw])
  refine lkA [(1,.i k),(2,.vptr 0 0),(5,.sl (G.length+2) 3 0 (j+1)),(9,.list (a.mv.map encMv)),(10,.i a.mv.length),(11,.i (j+1:Nat))] ?_;have:=z7 (G.length+2) _ ⟨by omega,by rw[yR];exact g.put [AObj.vars [.i m.src,.i m.dst,.list (m.on.map encL)],AObj.arr 73 3 [encMv (Y2 k m)]] _ rfl⟩ (by omega);obtain⟨e1,e2,e3⟩:(Y2 k m).src=m.src+k/\(Y2 k m).dst=m.dst+k/\(Y2 k m).on=m.on:=by unfold Y2;exact⟨rfl,rfl,rfl⟩
  simpa[e1,e2,e3]using this
 have zg:j=a.mv.length:=by simp at ze;omega
 subst zg;rw[zY]at g;obtain⟨Y,hY⟩:∃Y,(a.mv.map (Y2 k)).map encMv=Y:=⟨_,rfl⟩
 have zi:Y.length=a.mv.length:=by rw[<-hY];simp
 rw[hY]at g;have gq:=g.arr;repeat(refine s_ ?_;simp[gq])
 exact⟨by omega,by rw[zT (by omega),<-hY,vE]⟩
end
section
open Go Go.Proofs Go.Maps Go.RowKit
attribute [simp] w3t q30
attribute [local irreducible] U9 k09 Y2 Sz
def w0d(f:Int)(l:List Mv):Sz f (l.take 0)=[]:=by unfold Sz;simp
def q0m(f:Int)(l:List Mv){k:Nat}(h:k<l.length):Sz f (l.take (k+1))=Sz f (l.take k)++(if l[k].src=f then [⟨0,l[k].dst,l[k].on⟩]else []):=by
 unfold Sz;rw[zR h,wZ,yR]
 congr 1
 by_cases e:l[k].src=f<;>simp[e]
def Da(f:Int)(l:List Mv)(k:Nat):(Sz f (l.take k)).length<=l.length:=by unfold Sz;rw[yE];exact yP (yW _ _) (by simp;omega)
def j1d(n:Nat)(L R:List Mv):Nat->List Mv
 |0=>[]
 |1=>Sz 1 L
 |_=>Sz 1 L++Sz (1+n) R
structure UH (a b:Aut) (UF:List Bool) (c v:Nat) (M:List Mv) (H:List AObj):Prop where
 h0:H[0]?=some (.vars (Qj a))
 h1:H[1]?=some (.vars (Qj b))
 h2:H[2]?=some (.vars [.i 0,.nils,.nils])
 hc:H[c]?=some (.vars [.i a.types,LBo UF,.sl v 3 0 M.length])
 hv:H[v]?=some (.arr 73 3 (M.map encMv))
 c2:2<c
def UH.app{a b:Aut}{UF:List Bool}{c v:Nat}{M:List Mv}{H:List AObj}(h:UH a b UF c v M H)(E:List AObj):UH a b UF c v M (H++E):=⟨Qb h.h0 _,Qb h.h1 _,Qb h.h2 _,Qb h.hc _,Qb h.hv _,h.c2⟩
def UH.cv{a b:Aut}{UF:List Bool}{c v:Nat}{M:List Mv}{H:List AObj}(h:UH a b UF c v M H):c≠v:=λe=>by have h1:=h.hc;rw[e,h.hv]at h1;simp at h1
def UH.vn{a b:Aut}{UF:List Bool}{c v:Nat}{M:List Mv}{H:List AObj}(h:UH a b UF c v M H):v≠0/\v≠1/\v≠2:=by have k:=h.hv;have k0:=h.h0;have k1:=h.h1;have k2:=h.h2;refine⟨?_,?_,?_⟩<;>intro e<;>subst e<;>simp_all
def UH.put{a b:Aut}{UF:List Bool}{c v:Nat}{M:List Mv}{H:List AObj}(h:UH a b UF c v M H)(L:List AObj)(m:Mv):UH a b UF c (H.length+L.length) (M++[m]) ((H.set v .dead++(L++[AObj.arr 73 3 (M.map encMv++[encMv m])])).set c (.vars [.i a.types,LBo UF,.sl (H.length+L.length) 3 0 (M.length+1)])):=by
 obtain⟨v0,v1,v2⟩:=h.vn;have c2:=h.c2;have z1:=Qe h.hc;refine⟨Qc (by omega) (Qb (Qc v0 h.h0 _) _) _,Qc (by omega) (Qb (Qc v1 h.h1 _) _) _,Qc (by omega) (Qb (Qc v2 h.h2 _) _) _,?_,?_,c2⟩
 ·rw[zK (by simp;omega)];simp
 rw[zE (by omega),zF (by simp),zF (by simp)];simp
def v1y(a b:Aut)(ha:OkA a)(hb:OkA b)(ht:b.types=a.types):PC prog 38 [encA a,encA b] (λr=>r= .tup [encA (k09 (U9 a b)).1,.i (k09 (U9 a b)).2]):=by
 refine pcB func38 results38 ntmps38 ?_;simp only[Qd];have cP:=u0o a b;rw[E6.2 ⟨ha,hb,ht⟩]at cP;simp only[encA]at cP |-;have yr:=ha.fin;have yt:=hb.fin;have yu:=ha.mvs;have yw:=hb.mvs;repeat(refine s_ ?_;simp)
 refine pcL (cP) ?_;simp;repeat(refine s_ ?_;simp)
 refine Qa rfl (λh=>by simp at h) (λ_=>?_);obtain⟨fa,zf⟩:∃fa,a.fin.getD 0 false=fa:=⟨_,rfl⟩
 obtain⟨fb,zg⟩:∃fb,b.fin.getD 0 false=fb:=⟨_,rfl⟩
 have zu:0<a.fin.length:=by omega
 have zv:0<b.fin.length:=by omega
 have zw:(a.fin.map AV.bool)[0]?=some (.bool fa):=by rw[<-zf];simp[yL,zu]
 have y2:∀hh,(a.fin.map AV.bool)[0]'hh= .bool fa:=λhh=>(zZ hh).2 zw;have zx:(b.fin.map AV.bool)[0]?=some (.bool fb):=by rw[<-zg];simp[yL,zv]
 have y3:∀hh,(b.fin.map AV.bool)[0]'hh= .bool fb:=λhh=>(zZ hh).2 zx;have zc:a.fin[0]?=some fa:=by rw[<-zf];simp[yL,zu]
 have zd:b.fin[0]?=some fb:=by rw[<-zg];simp[yL,zv]
 have zh:∀hh,a.fin[0]'hh=fa:=λhh=>(zZ hh).2 zc;have zi:∀hh,b.fin[0]'hh=fb:=λhh=>(zZ hh).2 zd;have cC:=k0y [[fa || fb],a.fin,b.fin] (by simp) (by simp[Ab];omega);have y8:Ab [[fa || fb],a.fin,b.fin]=(U9 a b).fin:=by unfold U9;rw[zf,zg];simp[Ab]
 rw[y8]at cC;repeat(refine s_ ?_;simp)
 refine Y0 (P:=prog) tOk mixed [21] (.val 0 (.val 1 (.val 2 (.val 3 (.val 4 (.val 5 (.val 6 (.val 7 (.val 8 (.val 9 (.val 10 (.val 11 (.val 13 (.val 14 (.val 15 (.val 16 (.two 12 (.two 17 (.two 18 (.val 19 (.one 20 (.one 21 (.done)))) 20 (.one 18 (.val 19 (.one 21 (.done))))) 20 (.one 17 (.one 18 (.val 19 (.one 21 (.done)))))) 20 (.one 12 (.one 17 (.one 18 (.val 19 (.one 21 (.done))))))))))))))))))))))) (λS'=>∃c,S'.hp[0]?=some (.vars (Qj a))/\S'.hp[1]?=some (.vars (Qj b))/\S'.hp[2]?=some (.vars [.i 0,.nils,.nils])/\S'.hp[c]?=some (.vars [.i a.types,LBo (U9 a b).fin,.nils])/\look S'.sl 2=some (.vptr 0 0)/\look S'.sl 3=some (.vptr 1 0)/\look S'.sl 4=some (.vptr 2 0)/\look S'.sl 7=some (.vptr c 0)) rfl (by kernel_rfl) ?_ ?_
 ·have zb:yQ 3=[0,1,2]:=rfl;generalize (U9 a b).fin=UF at *
  cases fa
  ·simp[zw,y2,zx,y3,zc,zd,zh,zi,zu,zv,zb]
   repeat' (first
    |refine And.intro ?_ ?_
    |(refine Ek 3 rfl ?_;simp;refine Ty 4 rfl (by simp) ?_;simp;refine Qp 4 rfl ?_;simp;refine pcL cC ?_;simp[zb])
    |(refine Ek 3 rfl ?_;simp;refine Ty 5 rfl (by simp) ?_;simp;refine Qp 5 rfl ?_;simp;refine pcL cC ?_;simp[zb])
    |(refine Ek 4 rfl ?_;simp;refine Ty 5 rfl (by simp) ?_;simp;refine Qp 5 rfl ?_;simp;refine pcL cC ?_;simp[zb]))
  simp[zw,y2,zx,y3,zc,zd,zh,zi,zu,zv,zb]
  repeat' (first
   |refine And.intro ?_ ?_
   |(refine Ek 3 rfl ?_;simp;refine Ty 4 rfl (by simp) ?_;simp;refine Qp 4 rfl ?_;simp;refine pcL cC ?_;simp[zb])
   |(refine Ek 3 rfl ?_;simp;refine Ty 5 rfl (by simp) ?_;simp;refine Qp 5 rfl ?_;simp;refine pcL cC ?_;simp[zb])
   |(refine Ek 4 rfl ?_;simp;refine Ty 5 rfl (by simp) ?_;simp;refine Qp 5 rfl ?_;simp;refine pcL cC ?_;simp[zb]))
 rintro⟨sl,E⟩ ⟨c,e0,e1,e2,ec,s2,s3,s4,s7⟩;simp only at e0 e1 e2 ec s2 s3 s4 s7;simp;refine Ru (sl':=[(2,.vptr 0 0),(3,.vptr 1 0),(4,.vptr 2 0),(7,.vptr c 0)]) ?_ (by simp[s2,s3,s4,s7]);clear s2 s3 s4 s7 zw y2 zx y3 zc zd zh zi cC y8;have yx:c≠0/\c≠1/\c≠2:=by
  refine⟨λe=>?_,λe=>?_,λe=>?_⟩
  ·rw[e,e0]at ec;simp at ec
  ·rw[e,e1]at ec;simp at ec
  rw[e,e2]at ec;simp[LBo]at ec
 have yy:=Qe ec;have zy:IntKind.i64.wrap (1+(a.fin.length:Int))=1+a.fin.length:=wrap_i64 _ (by omega) (by omega);have cS1:=X9 a (by omega) 1 (by omega) (λm hm=>by
  have h:=ha.mv m hm;have h1:=h.src;have h2:=h.dst;have h3:=h.on;have h4:=ha.fin;have h5:=ha.types;refine⟨by omega,by omega,by rw[h3.1];omega,λs hs=>?_⟩;have:=Gv ha hm s hs;omega)
 have cS2:=X9 b (by omega) (1+a.fin.length) (by omega) (λm hm=>by
  have h:=hb.mv m hm;have h1:=h.src;have h2:=h.dst;have h3:=h.on;have h4:=hb.fin;have h5:=hb.types;refine⟨by omega,by omega,by rw[h3.1];omega,λs hs=>?_⟩;have:=Gv hb hm s hs;omega)
 simp only[encA]at cS1 cS2;repeat(refine s_ ?_;simp)
 refine drT [] (.val 0 (.pv 2 5 (.one 1 (.one 7 (.val 8 (.val 9 (.done))))))) ?_;simp[e0,e1,zy];refine pcL (cS1) ?_;simp[e0,e1,zy];refine pcL (cS2) ?_;simp[e0,e1,zy];have yb:yQ 2=[0,1]:=rfl;have yc:(a.mv.map (Y2 1)).length=a.mv.length:=by simp
 have yd:(b.mv.map (Y2 (1+a.fin.length))).length=b.mv.length:=by simp
 obtain⟨LM,zz⟩:∃LM,LM=a.mv.map (Y2 1):=⟨_,rfl⟩
 obtain⟨RM,y0⟩:∃RM,RM=b.mv.map (Y2 (1+a.fin.length)):=⟨_,rfl⟩
 have zl:a.mv.map (encMv∘Y2 1)=LM.map encMv:=by rw[zz,vE]
 have zm:b.mv.map (encMv∘Y2 (1+a.fin.length))=RM.map encMv:=by rw[y0,vE]
 rw[zl,zm];refine kpA [(2,.vptr 0 0),(3,.vptr 1 0),(4,.vptr 2 0),(7,.vptr c 0),(8,Yp LM),(9,Yp RM)] ?_;repeat(refine s_ ?_;simp[yb])
 refine W3 E.length (Fp E _ []) ?_;simp;refine Eu c 2 73 3 (Qb ec _) rfl ?_;refine Q3 λG hG=>?_;have hU:UH a b (U9 a b).fin c (E.length+1) (j1d a.fin.length LM RM 0) G:=by
  rw[hG];refine⟨Qc (by omega) (Qb (Qb e0 _) _) _,Qc (by omega) (Qb (Qb e1 _) _) _,Qc (by omega) (Qb (Qb e2 _) _) _,?_,?_,by omega⟩
  ·rw[zK (by simp;omega)];simp[j1d]
  rw[zE (by omega),zF (by simp)];simp[j1d]
 clear hG e0 e1 e2 ec;have ye:∀m∈LM,m.on.length<=1000/\∀s∈m.on,s.length<=1000:=by
  rw[zz];intro m hm;obtain⟨x,hx,rfl⟩:=zO.1 hm;have h3:=(ha.mv x hx).on;have h5:=ha.types;have e1:(Y2 1 x).on=x.on:=by unfold Y2;rfl
  rw[e1];refine⟨by rw[h3.1];omega,λs hs=>?_⟩;have:=Gv ha hx s hs;omega
 have yf:∀m∈RM,m.on.length<=1000/\∀s∈m.on,s.length<=1000:=by
  rw[y0];intro m hm;obtain⟨x,hx,rfl⟩:=zO.1 hm;have h3:=(hb.mv x hx).on;have h5:=hb.types;have e1:(Y2 (1+a.fin.length) x).on=x.on:=by unfold Y2;rfl
  rw[e1];refine⟨by rw[h3.1];omega,λs hs=>?_⟩;have:=Gv hb hx s hs;omega
 have yz:LM.length<=2048:=by rw[zz];omega
 have x0:RM.length<=2048:=by rw[y0];omega
 obtain⟨UF,y9⟩:∃UF,(U9 a b).fin=UF:=⟨_,rfl⟩
 rw[y9]at hU;clear zl zm;refine kpA [(2,.vptr 0 0),(3,.vptr 1 0),(4,.vptr 2 0),(7,.vptr c 0),(8,Yp LM),(9,Yp RM),(52,.list [Yp LM,Yp RM]),(53,.i 2),(54,.i (0:Nat))] ?_;refine lpV (F:=λ(u:Nat×Nat×List AObj)=>⟨[(2,.vptr 0 0),(3,.vptr 1 0),(4,.vptr 2 0),(7,.vptr c 0),(8,Yp LM),(9,Yp RM),(52,.list [Yp LM,Yp RM]),(53,.i 2),(54,.i u.1)],u.2.2⟩)
  (λu=>u.1<=2/\UH a b UF c u.2.1 (j1d a.fin.length LM RM u.1) u.2.2) (λu=>2 - u.1) ?_ (0,E.length+1,G) ⟨xA _,hU⟩
 clear hU;generalize E.length+1=v at *;clear v G
 rintro⟨i,v,G⟩ ⟨hi,hU⟩ ih;simp only at hi hU ih |-;repeat(refine s_ ?_;simp)
 refine Qa rfl (λyg=>?_) (λyh=>?_)
 ·have yi:i<2:=by simp at yg;omega
  have hw:=wz i (by omega);have yj:i=0\/i=1:=by omega
  have y1:=hU.h0;have z7:IntKind.i64.wrap 1=1:=by decide
  have ze:IntKind.i64.wrap 2=2:=by decide
  have yk:IntKind.i64.wrap 0=0:=by decide
  have yl:IntKind.i64.wrap (a.fin.length:Int)=a.fin.length:=wrap_i64 _ (by omega) (by omega);rcases yj with rfl|rfl
  ·repeat(refine s_ ?_;simp[y1,yk,z7])
   have hB:([]:List Mv).length<=5000:=by simp
   refine kpA [(2,.vptr 0 0),(3,.vptr 1 0),(4,.vptr 2 0),(7,.vptr c 0),(8,Yp LM),(9,Yp RM),(12,.i 1),(52,.list [Yp LM,Yp RM]),(53,.i 2),(54,.i (0:Nat)),(65,Yp LM),(66,.i (LM).length),(67,.i (0:Nat))] ?_;refine lpV (F:=λ(u:Nat×Nat×List AObj)=>⟨[(2,.vptr 0 0),(3,.vptr 1 0),(4,.vptr 2 0),(7,.vptr c 0),(8,Yp LM),(9,Yp RM),(12,.i 1),(52,.list [Yp LM,Yp RM]),(53,.i 2),(54,.i (0:Nat)),(65,Yp LM),(66,.i (LM).length),(67,.i u.1)],u.2.2⟩)
    (λu=>u.1<=(LM).length/\UH a b UF c u.2.1 ([]++Sz 1 ((LM).take u.1)) u.2.2) (λu=>(LM).length - u.1) ?_ (0,v,G) ⟨xA _,by rw[w0d,yV];exact hU⟩
   clear hU y1;clear G v;rintro⟨k,v,G⟩ ⟨hk,hU⟩ ih2;simp only at hk hU ih2 |-;repeat(refine s_ ?_;simp)
   refine Qa rfl (λzj=>?_) (λzk=>?_)
   ·have z1:k<(LM).length:=by simpa using zj
    have zn:=wz k (by omega);have zo:=q0m 1 LM z1;have ym:=Da 1 LM k;have z6:=λv' G'=>ih2 (k+1,v',G');simp only[zo]at z6;have y4:=ye _ (zL z1);have zp:((LM).map encMv)[k]?=some (encMv (LM)[k]):=by simp[z1]
    have zq:∀hh,((LM).map encMv)[k]'hh=encMv (LM)[k]:=λhh=>by simp
    clear zo;generalize (LM)[k]=m at *;simp only[encMv]at zp zq
    repeat(refine s_ ?_;simp[zp,zq,z1])
    have z8:=hU.app [.vars [.i m.src,.i m.dst,.list (m.on.map encL)]];have zr:(G++[AObj.vars [.i m.src,.i m.dst,.list (m.on.map encL)]])[G.length]?=some (.vars [.i m.src,.i m.dst,.list (m.on.map encL)]):=by rw[zF (by simp)];simp
    clear hU;generalize Sz 1 ((LM).take k)=acc at *
    by_cases hms:m.src=1
    ·have hb:(m.src==1)=true:=by simpa using hms
     rw[if_pos hms]at z6;refine Qa rfl (λ_=>?_) (λh=>by first|(simp[hms]at h;done)|(rw[hb]at h;cases h));generalize G++[AObj.vars [.i m.src,.i m.dst,.list (m.on.map encL)]]=Y at *
     have cC:=Ld m.on (by omega) (λs hs=>by have:=y4.2 s hs;omega);simp only[encP]at cC;have y7:=z8.hc;have yv:=z8.hv;have y7s:∀E,(Y.set v .dead++E)[c]?=some (.vars [.i a.types,LBo UF,.sl v 3 0 ([]++acc).length]):=λE=>Qb (Qc z8.cv.symm y7 _) _;have zt:(([]++acc).map encMv).length=([]++acc).length:=by simp
     have yn:([]++acc).length<=100000:=by rw[zW];have:=hB;omega
     generalize y5:[]++acc=AA at *
     repeat(refine s_ ?_;simp)
     refine drT [9,11] (.pv 0 6 (.one 6 (.val 7 (.one 8 (.one 9 (.val 10 (.one 11 (.done)))))))) ?_;simp[y7,zr];refine pcL (cC) ?_;simp[y7,zr];refine apS T23 T73 ?_;simp[Qb yv,Qg yv,zt,y7s,Qb y7];refine⟨by simp[Wo,Qb yv,Qg yv,zt,y7s,Qb y7]<;>omega,?_⟩;repeat(refine s_ ?_;simp[zn])
     refine lkA [(2,.vptr 0 0),(3,.vptr 1 0),(4,.vptr 2 0),(7,.vptr c 0),(8,Yp LM),(9,Yp RM),(12,.i 1),(52,.list [Yp LM,Yp RM]),(53,.i 2),(54,.i (0:Nat)),(65,Yp LM),(66,.i (LM).length),(67,.i (k+1:Nat))] ?_;have:=z6 (Y.length+1) _ ⟨by omega,by rw[<-xO,y5];exact z8.put [AObj.arr 73 3 [encMv ⟨0,m.dst,m.on⟩]] ⟨0,m.dst,m.on⟩⟩ (by omega);simpa using this
    rw[if_neg hms,yV]at z6;refine Qa rfl (λh=>by first|(simp[hms]at h;done)|(simp at h;exact absurd h hms)) (λ_=>?_);repeat(refine s_ ?_;simp[zn])
    exact lkB (z6 v _ ⟨by omega,z8⟩ (by omega))
   have za:k=(LM).length:=by simp at zk;omega
   subst za;rw[zY]at hU;repeat(refine s_ ?_;simp[z7,ze])
   exact Qo (ih (0+1,v,G) ⟨by simp only;omega,hU⟩ (by simp only;omega)) (by simp[z7,ze])
  repeat(refine s_ ?_;simp[y1,yl,zy])
  have hB:(Sz 1 LM).length<=5000:=by have:=Da 1 LM LM.length;rw[zY]at this;omega
  refine kpA [(2,.vptr 0 0),(3,.vptr 1 0),(4,.vptr 2 0),(7,.vptr c 0),(8,Yp LM),(9,Yp RM),(12,.i (1+(a.fin.length:Int))),(52,.list [Yp LM,Yp RM]),(53,.i 2),(54,.i (1:Nat)),(65,Yp RM),(66,.i (RM).length),(67,.i (0:Nat))] ?_;refine lpV (F:=λ(u:Nat×Nat×List AObj)=>⟨[(2,.vptr 0 0),(3,.vptr 1 0),(4,.vptr 2 0),(7,.vptr c 0),(8,Yp LM),(9,Yp RM),(12,.i (1+(a.fin.length:Int))),(52,.list [Yp LM,Yp RM]),(53,.i 2),(54,.i (1:Nat)),(65,Yp RM),(66,.i (RM).length),(67,.i u.1)],u.2.2⟩)
   (λu=>u.1<=(RM).length/\UH a b UF c u.2.1 (Sz 1 LM++Sz (1+(a.fin.length:Int)) ((RM).take u.1)) u.2.2) (λu=>(RM).length - u.1) ?_ (0,v,G) ⟨xA _,by rw[w0d,yV];exact hU⟩
  clear hU y1;clear G v;rintro⟨k,v,G⟩ ⟨hk,hU⟩ ih2;simp only at hk hU ih2 |-;repeat(refine s_ ?_;simp)
  refine Qa rfl (λzj=>?_) (λzk=>?_)
  ·have z1:k<(RM).length:=by simpa using zj
   have zn:=wz k (by omega);have zo:=q0m (1+(a.fin.length:Int)) RM z1;have ym:=Da (1+(a.fin.length:Int)) RM k;have z6:=λv' G'=>ih2 (k+1,v',G');simp only[zo]at z6;have y4:=yf _ (zL z1);have zp:((RM).map encMv)[k]?=some (encMv (RM)[k]):=by simp[z1]
   have zq:∀hh,((RM).map encMv)[k]'hh=encMv (RM)[k]:=λhh=>by simp
   clear zo;generalize (RM)[k]=m at *;simp only[encMv]at zp zq
   repeat(refine s_ ?_;simp[zp,zq,z1])
   have z8:=hU.app [.vars [.i m.src,.i m.dst,.list (m.on.map encL)]];have zr:(G++[AObj.vars [.i m.src,.i m.dst,.list (m.on.map encL)]])[G.length]?=some (.vars [.i m.src,.i m.dst,.list (m.on.map encL)]):=by rw[zF (by simp)];simp
   clear hU;generalize Sz (1+(a.fin.length:Int)) ((RM).take k)=acc at *
   by_cases hms:m.src=(1+(a.fin.length:Int))
   ·have hb:(m.src==(1+(a.fin.length:Int)))=true:=by simpa using hms
    rw[if_pos hms]at z6;refine Qa rfl (λ_=>?_) (λh=>by first|(simp[hms]at h;done)|(rw[hb]at h;cases h));generalize G++[AObj.vars [.i m.src,.i m.dst,.list (m.on.map encL)]]=Y at *
    have cC:=Ld m.on (by omega) (λs hs=>by have:=y4.2 s hs;omega);simp only[encP]at cC;have y7:=z8.hc;have yv:=z8.hv;have y7s:∀E,(Y.set v .dead++E)[c]?=some (.vars [.i a.types,LBo UF,.sl v 3 0 (Sz 1 LM++acc).length]):=λE=>Qb (Qc z8.cv.symm y7 _) _;have zt:((Sz 1 LM++acc).map encMv).length=(Sz 1 LM++acc).length:=by simp
    have yn:(Sz 1 LM++acc).length<=100000:=by rw[zW];have:=hB;omega
    generalize y5:Sz 1 LM++acc=AA at *
    repeat(refine s_ ?_;simp)
    refine drT [9,11] (.pv 0 6 (.one 6 (.val 7 (.one 8 (.one 9 (.val 10 (.one 11 (.done)))))))) ?_;simp[y7,zr];refine pcL (cC) ?_;simp[y7,zr];refine apS T23 T73 ?_;simp[Qb yv,Qg yv,zt,y7s,Qb y7];refine⟨by simp[Wo,Qb yv,Qg yv,zt,y7s,Qb y7]<;>omega,?_⟩;repeat(refine s_ ?_;simp[zn])
    refine lkA [(2,.vptr 0 0),(3,.vptr 1 0),(4,.vptr 2 0),(7,.vptr c 0),(8,Yp LM),(9,Yp RM),(12,.i (1+(a.fin.length:Int))),(52,.list [Yp LM,Yp RM]),(53,.i 2),(54,.i (1:Nat)),(65,Yp RM),(66,.i (RM).length),(67,.i (k+1:Nat))] ?_;have:=z6 (Y.length+1) _ ⟨by omega,by rw[<-xO,y5];exact z8.put [AObj.arr 73 3 [encMv ⟨0,m.dst,m.on⟩]] ⟨0,m.dst,m.on⟩⟩ (by omega);simpa using this
   rw[if_neg hms,yV]at z6;refine Qa rfl (λh=>by first|(simp[hms]at h;done)|(simp at h;exact absurd h hms)) (λ_=>?_);repeat(refine s_ ?_;simp[zn])
   exact lkB (z6 v _ ⟨by omega,z8⟩ (by omega))
  have za:k=(RM).length:=by simp at zk;omega
  subst za;rw[zY]at hU;repeat(refine s_ ?_;simp[z7,ze])
  exact Qo (ih (1+1,v,G) ⟨by simp only;omega,hU⟩ (by simp only;omega)) (by simp[z7,ze])
 have y6:i=2:=by simp at yh;omega
 subst y6;have x1:(j1d a.fin.length LM RM 2).length<=10000:=by show(Sz 1 LM++Sz (1+a.fin.length) RM).length<=10000;have h1:=Da 1 LM LM.length;have h2:=Da (1+a.fin.length) RM RM.length;rw[zY]at h1 h2;rw[zW];omega
 have yo:U9 a b=⟨a.types,UF,Pk [j1d a.fin.length LM RM 2,LM,RM]⟩:=by rw[<-y9,zz,y0];unfold U9 j1d;simp[Pk]
 have cK:=g08 [j1d a.fin.length LM RM 2,LM,RM] (by simp) (by simp[Pk];omega);have cL:=y0d (U9 a b);rw[yo]at cL |-;generalize j1d a.fin.length LM RM 2=M0 at *;generalize Pk [M0,LM,RM]=CM at *;generalize k09 ⟨a.types,UF,CM⟩=LG at *
 have yp:tB M0.length (M0.map encMv)=M0.map encMv:=zT (by simp);refine Q0 v hU.hv c hU.hc ?_;simp;rw[yp];refine Q3 λK hK=>?_;have yq:=hU.cv;have kc:K[c]?=some (.vars [.i a.types,LBo UF,Yp M0]):=by rw[hK];exact Qf (Qc (Ne.symm yq) hU.hc _) _
 have k2:K[2]?=some (.vars [.i 0,.nils,.nils]):=by rw[hK];exact Qc (by have:=hU.c2;omega) (Qc hU.vn.2.2 hU.h2 _) _
 have x2:=hU.c2;clear hK;have zb:yQ 3=[0,1,2]:=rfl;simp only[encA]at cL |-;repeat(refine s_ ?_;simp[kc,zb])
 refine Qp K.length (Fp K _ []) ?_;simp;refine pcL (cK) ?_;simp[Qb kc];have ya:∀y,((K++[AObj.dead]).set c y)[c]?=some y:=λy=>Qf (Qb kc _) _;repeat(refine s_ ?_;simp[Qb kc,ya])
 have k2s:∀y,((K++[AObj.dead]).set c y)[2]?=some (.vars [.i 0,.nils,.nils]):=λy=>Qc (by omega) (Qb k2 _) _;have k2t:∀y z,(((K++[AObj.dead]).set c y).set 2 z)[2]?=some z:=λy z=>Qf (k2s y) _;refine pcL (cL) ?_;simp[Qb kc,ya,k2s,k2t];repeat(refine s_ ?_;simp[k2s,k2t])
end
section
open Go Go.Proofs
def zip_fst(PS:List (Int×Int))(k:Nat):(PS.zipIdx k).map (·.1)=PS:=by
 induction PS generalizing k with
 |nil=>rfl
 |cons x l ih=>simp[List.zipIdx_cons]
def v16{PS:List (Int×Int)}{s:Int×Int}{k:Nat}(h:(s,k)∈PS.zipIdx):PS[k]?=some s:=by rw[List.mk_mem_zipIdx_iff_getElem?]at h;exact h
def j20{PS:List (Int×Int)}(hn:PS.Nodup)(hr:∀s∈PS,okK s):NK PS.zipIdx:=by refine⟨by rw[zip_fst];exact hn,λe he=>hr _ ?_⟩;obtain⟨s,k⟩:=e;exact zJ (v16 he)
def q2v{PS:List (Int×Int)}{s:Int×Int}{k:Nat}(h:lkN PS.zipIdx s=some k):PS[k]?=some s:=by
 unfold lkN at h;obtain⟨e,he,rfl⟩:=zQ.1 h;have h1:e.1=s:=by simpa using List.find?_some he
 have h2:=List.mem_of_find?_eq_some he;obtain⟨t,k⟩:=e;simp only at h1;subst h1;exact v16 h2
def j1h{PS:List (Int×Int)}{s:Int×Int}(h:lkN PS.zipIdx s=none):s∉PS:=by rw[H5,zip_fst]at h;exact h
def d1q(PS:List (Int×Int))(s:Int×Int):(PS++[s]).zipIdx=PS.zipIdx++[(s,PS.length)]:=by simp[tI]
def PrI.okK{a b:Aut}(ha:OkA a)(hb:OkA b){PS:List (Int×Int)}{F:List Bool}{M:List Mv}(h:PrI a b PS F M):∀s∈PS,Go.Abs.okK s:=λs hs=>by have h1:=h.rg s hs;have h2:=ha.fin;have h3:=hb.fin;unfold inS at h1;unfold Go.Abs.okK;omega
def PrI.len{a b:Aut}{PS:List (Int×Int)}{F:List Bool}{M:List Mv}(h:PrI a b PS F M):PS.length<=a.fin.length * b.fin.length:=by
 have hle:=Yd PS ((W9 a.fin.length).flatMap λx=>(W9 b.fin.length).map λy=>(x,y)) h.nd λs hs=>by have:=h.rg s hs;unfold inS at this;exact List.mem_flatMap.2 ⟨s.1,Wy.2 ⟨by omega,by omega⟩,zO.2 ⟨s.2,Wy.2 ⟨by omega,by omega⟩,rfl⟩⟩
 refine yP hle ?_;rw[List.length_flatMap];have:((W9 a.fin.length).map λx=>((W9 b.fin.length).map λy=>(x,y)).length)=List.replicate a.fin.length b.fin.length:=by refine List.eq_replicate_iff.2 ⟨by simp[W9],λz hz=>?_⟩;obtain⟨x,_,rfl⟩:=zO.1 hz;simp[W9]
 rw[this,List.sum_replicate_nat];exact zS _
end
section
open Go Go.Proofs Go.Maps Go.RowKit
attribute [simp] g27 c2q
section
variable {nt k:Nat} {S:AS} {ops:Array Oper} {o:Oper} {R:AS->Prop}
def k0q (hw:Qn ops S o=some true) (hd:Wx nt o=true) {x ix y:Operand} (ho:o.op= .insert 109 x ix y) {id:Nat} (hx:rho S.sl x=some (.mref id)) {s:Int×Int} (z1:rho S.sl ix=some (.agg [.i s.1,.i s.2])) {d:Nat} (hy:rho S.sl y=some (.i d))
  (z6:S.hp[id]?=some (.mp [])) (hn:okK s) (hR:R (({ S with hp:=S.hp.set id (mpN [(s,d)]) }:AS).putD o.dst (.tup []))):Q7 prog nt k true ops o S R:=by
 refine Um tOk hw hd ho g27 rfl V4 hx z1 hy (by simp[AV.pure]) z6 (H7 hn) (λp hp=>by cases hp) (λj p hp he=>by cases hp) (λz7=>?_);exact hR
end
end
section
open Go Go.Proofs Go.Maps Go.RowKit
def v2a(n:Gy):mpN n= .mp (kvN n):=rfl
structure PH (a b:Aut) (PS:List (Int×Int)) (F:List Bool) (M:List Mv) (q f v N i:Nat) (H:List AObj):Prop where
 inv:PrI a b PS F M
 h0:H[0]?=some (.vars (Qj a))
 h1:H[1]?=some (.vars (Qj b))
 h2:H[2]?=some (.vars [.i 0,.nils,.nils])
 h3:H[3]?=some (.vars [.i 0])
 h4:H[4]?=some (mpN PS.zipIdx)
 h5:H[5]?=some (.vars [.mref 4])
 h7:H[7]?=some (.vars [.sl q 2 0 PS.length])
 h8:H[8]?=some (.vars [.i a.types,.sl f 1 0 F.length,.sl v 3 0 M.length])
 hq:H[q]?=some (.arr 66 2 (PS.map pqr))
 hf:H[f]?=some (.arr 4 1 (F.map .bool))
 hv:H[v]?=some (.arr 73 3 (M.map encMv))
 hN:H[N]?=some (.vars [.i i])
 nl:8<N
section
variable {a b:Aut} {PS:List (Int×Int)} {F:List Bool} {M:List Mv} {q f v N i:Nat} {H:List AObj}
theorem PH.app(h:PH a b PS F M q f v N i H)(E:List AObj):PH a b PS F M q f v N i (H++E):=
 ⟨h.inv,Qb h.h0 _,Qb h.h1 _,Qb h.h2 _,Qb h.h3 _,Qb h.h4 _,Qb h.h5 _,Qb h.h7 _,Qb h.h8 _,Qb h.hq _,Qb h.hf _,Qb h.hv _,Qb h.hN _,h.nl⟩
theorem PH.ne(h:PH a b PS F M q f v N i H):(q≠0/\q≠1/\q≠2/\q≠3/\q≠4/\q≠5/\q≠7/\q≠8/\q≠N)/\(f≠0/\f≠1/\f≠2/\f≠3/\f≠4/\f≠5/\f≠7/\f≠8/\f≠N)/\(v≠0/\v≠1/\v≠2/\v≠3/\v≠4/\v≠5/\v≠7/\v≠8/\v≠N):=by
 have k0:=h.h0;have k1:=h.h1;have k2:=h.h2;have k3:=h.h3;have k4:=h.h4;have k5:=h.h5;have k7:=h.h7;have k8:=h.h8;have kN:=h.hN;rw[v2a]at k4;have key:∀ {p e sz:Nat} {xs:List AV},H[p]?=some (.arr e sz xs)->p≠0/\p≠1/\p≠2/\p≠3/\p≠4/\p≠5/\p≠7/\p≠8/\p≠N:=λ{p e sz xs} hp=>by refine⟨?_,?_,?_,?_,?_,?_,?_,?_,?_⟩<;>intro e<;>subst e<;>simp_all
 exact⟨key h.hq,key h.hf,key h.hv⟩
theorem PH.qf(h:PH a b PS F M q f v N i H):q≠f/\q≠v/\f≠v:=by have k1:=h.hq;have k2:=h.hf;have k3:=h.hv;refine⟨?_,?_,?_⟩<;>intro e<;>subst e<;>simp_all
theorem PH.setx(h:PH a b PS F M q f v N i H){j:Nat}(hj:8<j)(hq:j≠q)(hf:j≠f)(hv:j≠v)(hN:j≠N)(x:AObj):PH a b PS F M q f v N i (H.set j x):=
 ⟨h.inv,Qc (by omega) h.h0 _,Qc (by omega) h.h1 _,Qc (by omega) h.h2 _,Qc (by omega) h.h3 _,Qc (by omega) h.h4 _,Qc (by omega) h.h5 _,Qc (by omega) h.h7 _,Qc (by omega) h.h8 _,Qc hq h.hq _,Qc hf h.hf _,Qc hv h.hv _,Qc hN h.hN _,h.nl⟩
theorem PH.cell(h:PH a b PS F M q f v N i H)(j:Nat):PH a b PS F M q f v H.length j (H++[.vars [.i j]]):=
 ⟨h.inv,Qb h.h0 _,Qb h.h1 _,Qb h.h2 _,Qb h.h3 _,Qb h.h4 _,Qb h.h5 _,Qb h.h7 _,Qb h.h8 _,Qb h.hq _,Qb h.hf _,Qb h.hv _,by rw[zF (by simp)];simp,by have:=Qe h.hN;have:=h.nl;omega⟩
theorem PH.off(h:PH a b PS F M q f v N i H){j:Nat}{x:AObj}(hx:H[j]?=some x)(h1:∀e sz xs,x≠ .arr e sz xs):j≠q/\j≠f/\j≠v:=by
 refine⟨λe=>?_,λe=>?_,λe=>?_⟩
 ·rw[e,h.hq]at hx;exact h1 _ _ _ (Option.some.inj hx).symm
 ·rw[e,h.hf]at hx;exact h1 _ _ _ (Option.some.inj hx).symm
 rw[e,h.hv]at hx;exact h1 _ _ _ (Option.some.inj hx).symm
theorem PH.fn (h:PH a b PS F M q f v N i H) {z:Bool} {f':Nat} {Z:List AObj} (hlen:H.length<=Z.length) (hi:PrI a b PS (F++[z]) M)
  (e8:Z[8]?=some (.vars [.i a.types,.sl f' 1 0 (F.length+1),.sl v 3 0 M.length])) (ef:Z[f']?=some (.arr 4 1 (F.map .bool++[.bool z]))) (ek:∀j,j≠8->j≠f->j<H.length->Z[j]? =H[j]?):PH a b PS (F++[z]) M q f' v N i Z:=by
 obtain⟨nq,nf,nv⟩:=h.ne;obtain⟨qf,qv,fv⟩:=h.qf;have z1:=h.nl;exact⟨hi,(ek 0 (by decide) (by omega) (Qe h.h0)).trans h.h0,(ek 1 (by decide) (by omega) (Qe h.h1)).trans h.h1,(ek 2 (by decide) (by omega) (Qe h.h2)).trans h.h2,(ek 3 (by decide) (by omega) (Qe h.h3)).trans h.h3,(ek 4 (by decide) (by omega) (Qe h.h4)).trans h.h4,(ek 5 (by decide) (by omega) (Qe h.h5)).trans h.h5,(ek 7 (by decide) (by omega) (Qe h.h7)).trans h.h7,
  by rw[e8];simp,(ek q (by omega) qf (Qe h.hq)).trans h.hq,by rw[ef];simp,(ek v (by omega) (Ne.symm fv) (Qe h.hv)).trans h.hv,(ek N (by omega) (by omega) (Qe h.hN)).trans h.hN,h.nl⟩
theorem PH.ps (h:PH a b PS F M q f v N i H) {t:Int×Int} {q':Nat} {Z:List AObj} (hlen:H.length<=Z.length) (hi:PrI a b (PS++[t]) F M)
  (e4:Z[4]?=some (mpN (PS++[t]).zipIdx)) (e7:Z[7]?=some (.vars [.sl q' 2 0 (PS.length+1)])) (eq:Z[q']?=some (.arr 66 2 (PS.map pqr++[pqr t]))) (ek:∀j,j≠4->j≠7->j≠q->j<H.length->Z[j]? =H[j]?):PH a b (PS++[t]) F M q' f v N i Z:=by
 obtain⟨nq,nf,nv⟩:=h.ne;obtain⟨qf,qv,fv⟩:=h.qf;have z1:=h.nl;exact⟨hi,(ek 0 (by decide) (by decide) (by omega) (Qe h.h0)).trans h.h0,(ek 1 (by decide) (by decide) (by omega) (Qe h.h1)).trans h.h1,(ek 2 (by decide) (by decide) (by omega) (Qe h.h2)).trans h.h2,(ek 3 (by decide) (by decide) (by omega) (Qe h.h3)).trans h.h3,e4,(ek 5 (by decide) (by decide) (by omega) (Qe h.h5)).trans h.h5,
  by rw[e7];simp,(ek 8 (by decide) (by decide) (by omega) (Qe h.h8)).trans h.h8,by rw[eq];simp,(ek f (by omega) (by omega) (Ne.symm qf) (Qe h.hf)).trans h.hf,(ek v (by omega) (by omega) (Ne.symm qv) (Qe h.hv)).trans h.hv,(ek N (by omega) (by omega) (by omega) (Qe h.hN)).trans h.hN,h.nl⟩
theorem PH.mv (h:PH a b PS F M q f v N i H) {m:Mv} {v':Nat} {Z:List AObj} (hlen:H.length<=Z.length) (hi:PrI a b PS F (M++[m]))
  (e8:Z[8]?=some (.vars [.i a.types,.sl f 1 0 F.length,.sl v' 3 0 (M.length+1)])) (ev:Z[v']?=some (.arr 73 3 (M.map encMv++[encMv m]))) (ek:∀j,j≠8->j≠v->j<H.length->Z[j]? =H[j]?):PH a b PS F (M++[m]) q f v' N i Z:=by
 obtain⟨nq,nf,nv⟩:=h.ne;obtain⟨qf,qv,fv⟩:=h.qf;have z1:=h.nl;exact⟨hi,(ek 0 (by decide) (by omega) (Qe h.h0)).trans h.h0,(ek 1 (by decide) (by omega) (Qe h.h1)).trans h.h1,(ek 2 (by decide) (by omega) (Qe h.h2)).trans h.h2,(ek 3 (by decide) (by omega) (Qe h.h3)).trans h.h3,(ek 4 (by decide) (by omega) (Qe h.h4)).trans h.h4,(ek 5 (by decide) (by omega) (Qe h.h5)).trans h.h5,(ek 7 (by decide) (by omega) (Qe h.h7)).trans h.h7,
  by rw[e8];simp,(ek q (by omega) qv (Qe h.hq)).trans h.hq,(ek f (by omega) fv (Qe h.hf)).trans h.hf,by rw[ev];simp,(ek N (by omega) (by omega) (Qe h.hN)).trans h.hN,h.nl⟩
end
def PrR(a b:Aut)(r:AV):Prop:=r= .tup [encA Yj,.i 5]\/∃p,r= .tup [encA p,.i 0]/\OkA p/\p.types=a.types/\∃prs,Sim p a b prs
end
section
open Go Go.Proofs Go.Maps Go.RowKit
attribute [local irreducible] L0 Vy Wp
def x1x{T:Nat}{p:Prd}(h:PCk T p):∀i,i<p.length->ckR (p.getD i [])=0:=λi hi=>by rw[yL,zI hi];exact(Gr _).2 (h.2 _ (zL hi))
def z0q(a b:Aut)(ha:OkA a)(hb:OkA b)(ht:b.types=a.types):PC prog 19 [encA a,encA b] (λr=>PrR a b r):=by
 refine pcB func19 results19 ntmps19 ?_;simp only[Qd];have cP:=u0o a b;rw[E6.2 ⟨ha,hb,ht⟩]at cP;simp only[encA]at cP |-;have xf:=ha.fin;have xg:=hb.fin;have wi:=ha.mvs;have wj:=hb.mvs;repeat(refine s_ ?_;simp)
 refine pcL (cP) ?_;simp;repeat(refine s_ ?_;simp)
 refine Qa rfl (λh=>by simp at h) (λ_=>?_);repeat(refine s_ ?_;simp)
 refine Ea rfl rfl rfl ?_;simp;refine k0q rfl rfl rfl rfl (s:=(0,0)) rfl (d:=0) rfl rfl (by unfold okK;decide) ?_;simp;repeat(refine s_ ?_;simp)
 refine Eu 8 1 4 1 rfl rfl ?_;simp;refine Eu 8 2 73 3 rfl rfl ?_;simp;have yy:PH a b [(0,0)] [] [] 6 10 11 9 0 [.vars (Qj a),.vars (Qj b),.vars [.i 0,.nils,.nils],.vars [.i 0],mpN [((0,0),0)],.vars [.mref 4],.arr 66 2 [.agg [.i 0,.i 0]],.vars [.sl 6 2 0 1],.vars [.i a.types,.sl 10 1 0 0,.sl 11 3 0 0],.vars [.i 0],.arr 4 1 [],.arr 73 3 []]:=
  ⟨PrI.start ha hb,rfl,rfl,rfl,rfl,rfl,rfl,rfl,rfl,rfl,rfl,rfl,rfl,by decide⟩
 refine lpV (F:=λ(u:Nat×Nat×Nat×Nat×Nat×List (Int×Int)×List Bool×List Mv×List AObj)=>⟨[(2,.vptr 0 0),(3,.vptr 1 0),(4,.vptr 2 0),(5,.vptr 3 0),(7,.vptr 5 0),(8,.vptr 7 0),(9,.vptr 8 0),(10,.vptr u.2.1 0)],u.2.2.2.2.2.2.2.2⟩)
  (λu=>PH a b u.2.2.2.2.2.1 u.2.2.2.2.2.2.1 u.2.2.2.2.2.2.2.1 u.2.2.1 u.2.2.2.1 u.2.2.2.2.1 u.2.1 u.1 u.2.2.2.2.2.2.2.2/\u.2.2.2.2.2.2.1.length=u.1/\u.1<=u.2.2.2.2.2.1.length/\u.2.2.2.2.2.1.length<=256/\u.2.2.2.2.2.2.2.1.length<=2048) (λu=>257 - u.1) ?_ (0,9,6,10,11,[(0,0)],[],[],_) ⟨yy,rfl,by simp,by simp,by simp⟩
 clear yy;rintro⟨i,N,q,f,v,PS,F,M,H⟩ ⟨hS,ye,hi,yz,x0⟩ ih;simp only at hS ye hi yz x0 ih |-;repeat(refine s_ ?_;simp[hS.hN,hS.h7])
 refine Qa rfl (λxh=>?_) (λxi=>?_)
 ·have zo:i<PS.length:=by simpa using xh
  obtain⟨s,hs⟩:∃s,PS[i]?=some s:=⟨_,zI zo⟩
  have y5:=hS.inv.rg s (zJ hs);have x1:(PS.map pqr)[i]?=some (.agg [.i s.1,.i s.2]):=by rw[zU,hs];rfl
  have xj:∀hh,(PS.map pqr)[i]'hh= .agg [.i s.1,.i s.2]:=λhh=>(zZ hh).2 x1;repeat(refine s_ ?_;simp[hS.hN,hS.h7,hS.hq,x1,xj,zo])
  have z7:=hS.app [.vars [.i s.1,.i s.2]];have zb:(H++[AObj.vars [.i s.1,.i s.2]])[H.length]?=some (.vars [.i s.1,.i s.2]):=by rw[zF (by simp)];simp
  have xl:8<H.length:=by have:=Qe hS.hN;have:=hS.nl;omega
  have wk:H.length≠N:=by have:=Qe hS.hN;omega
  clear hS;generalize H++[AObj.vars [.i s.1,.i s.2]]=Y at *;generalize H.length=x at *;clear H
  obtain⟨fa,ze⟩:∃fa,a.fin.getD s.1.toNat false=fa:=⟨_,rfl⟩
  obtain⟨fb,zf⟩:∃fb,b.fin.getD s.2.toNat false=fb:=⟨_,rfl⟩
  have yg:=y5.1.1;have yh:=y5.1.2;have yi:=y5.2.1;have yj:=y5.2.2;have zp:(a.fin.map AV.bool)[s.1.toNat]?=some (.bool fa):=by
   have:s.1.toNat<a.fin.length:=by omega
   rw[<-ze];simp[yL,this]
  have y6:∀hh,(a.fin.map AV.bool)[s.1.toNat]'hh= .bool fa:=λhh=>(zZ hh).2 zp;have zq:(b.fin.map AV.bool)[s.2.toNat]?=some (.bool fb):=by
   have:s.2.toNat<b.fin.length:=by omega
   rw[<-zf];simp[yL,this]
  have y7:∀hh,(b.fin.map AV.bool)[s.2.toNat]'hh= .bool fb:=λhh=>(zZ hh).2 zq;have zc:a.fin[s.1.toNat]?=some fa:=by
   have:s.1.toNat<a.fin.length:=by omega
   rw[<-ze];simp[yL,this]
  have zd:b.fin[s.2.toNat]?=some fb:=by
   have:s.2.toNat<b.fin.length:=by omega
   rw[<-zf];simp[yL,this]
  have zr:=z7.inv.fn (s:=s) (by rw[ye];exact hs);rw[ze,zf]at zr;have y0:=z7.h0;have y1:=z7.h1;have y8:=z7.h8;have yf:=z7.hf;have y9:=z7.off zb (by simp);have zg:(F.map AV.bool).length=F.length:=by simp
  obtain⟨nq,nf,nv⟩:=z7.ne;have y8s:∀E,(Y.set f .dead++E)[8]?=some (.vars [.i a.types,.sl f 1 0 F.length,.sl v 3 0 M.length]):=λE=>Qb (Qc nf.2.2.2.2.2.2.2.1 y8 _) _;refine K8 (P:=prog) tOk mixed [17,19] (.val 0 (.val 1 (.val 2 (.val 3 (.val 4 (.val 5 (.val 6 (.val 7 (.val 8 (.val 9 (.val 10 (.val 11 (.val 12 (.val 13 (.val 14 (.val 15 (.one 16 (.one 17 (.val 18 (.one 19 (.done))))))))))))))))))))) (λS'=>∃f',PH a b PS (F++[fa && fb]) M q f' v N i S'.hp/\S'.hp[x]?=some (.vars [.i s.1,.i s.2])/\look S'.sl 2=some (.vptr 0 0)/\look S'.sl 3=some (.vptr 1 0)/\look S'.sl 4=some (.vptr 2 0)/\look S'.sl 5=some (.vptr 3 0)/\look S'.sl 7=some (.vptr 5 0)/\look S'.sl 8=some (.vptr 7 0)/\look S'.sl 9=some (.vptr 8 0)/\look S'.sl 10=some (.vptr N 0)/\look S'.sl 11=some (.vptr x 0)) rfl (by kernel_rfl) ?_ ?_
  ·have wo:8<Y.length:=Qe y8;have fin8:∀z B,((Y.set f .dead++[AObj.arr 4 1 B,AObj.arr 4 1 (F.map AV.bool++[.bool z])]).set 8 (.vars [.i a.types,.sl (Y.length+1) 1 0 (F.length+1),.sl v 3 0 M.length]))[8]?=some (.vars [.i a.types,.sl (Y.length+1) 1 0 (F.length+1),.sl v 3 0 M.length]):=λz B=>Qf (y8s _) _;have finf:∀z B,((Y.set f .dead++[AObj.arr 4 1 B,AObj.arr 4 1 (F.map AV.bool++[.bool z])]).set 8 (.vars [.i a.types,.sl (Y.length+1) 1 0 (F.length+1),.sl v 3 0 M.length]))[Y.length+1]?=some (.arr 4 1 (F.map AV.bool++[.bool z])):=λz B=>by rw[zE (by omega),zF (by simp)];simp
   have fink:∀z B j,j≠8->j≠f->j<Y.length->((Y.set f .dead++[AObj.arr 4 1 B,AObj.arr 4 1 (F.map AV.bool++[.bool z])]).set 8 (.vars [.i a.types,.sl (Y.length+1) 1 0 (F.length+1),.sl v 3 0 M.length]))[j]? =Y[j]? :=λz B j h1 h2 h3=>by rw[zE (Ne.symm h1),zH (by simpa using h3),zE (Ne.symm h2)]
   have yk:=Qe zb;cases fa
   ·simp[y0,y1,y8,zb,yg,yh,yi,yj,zp,y6,zc,zq,y7,zd];refine apS T22 T4 ?_;simp[Qb yf,Qg yf,zg,y8s];refine⟨by simp[Wo,Qb yf,Qg yf,zg,y8s]<;>omega,?_⟩;exact⟨⟨Y.length+1,z7.fn (by simp) zr (fin8 _ _) (finf _ _) (fink _ _)⟩,(fink _ _ x (by omega) y9.2.1 yk).trans zb⟩
   cases fb
   ·simp[y0,y1,y8,zb,yg,yh,yi,yj,zp,y6,zc,zq,y7,zd];refine apS T22 T4 ?_;simp[Qb yf,Qg yf,zg,y8s];refine⟨by simp[Wo,Qb yf,Qg yf,zg,y8s]<;>omega,?_⟩;exact⟨⟨Y.length+1,z7.fn (by simp) zr (fin8 _ _) (finf _ _) (fink _ _)⟩,(fink _ _ x (by omega) y9.2.1 yk).trans zb⟩
   simp[y0,y1,y8,zb,yg,yh,yi,yj,zp,y6,zc,zq,y7,zd];refine apS T22 T4 ?_;simp[Qb yf,Qg yf,zg,y8s];refine⟨by simp[Wo,Qb yf,Qg yf,zg,y8s]<;>omega,?_⟩;exact⟨⟨Y.length+1,z7.fn (by simp) zr (fin8 _ _) (finf _ _) (fink _ _)⟩,(fink _ _ x (by omega) y9.2.1 yk).trans zb⟩
  rintro⟨sl,E⟩ ⟨f',hE,ex,s2,s3,s4,s5,s7,s8,s9,s10,s11⟩;simp only at hE ex s2 s3 s4 s5 s7 s8 s9 s10 s11 |-;refine Ru (sl':=[(2,.vptr 0 0),(3,.vptr 1 0),(4,.vptr 2 0),(5,.vptr 3 0),(7,.vptr 5 0),(8,.vptr 7 0),(9,.vptr 8 0),(10,.vptr N 0),(11,.vptr x 0)]) ?_ (by simp[s2,s3,s4,s5,s7,s8,s9,s10,s11]);clear s2 s3 s4 s5 s7 s8 s9 s10 s11 z7 zb y0 y1 y8 yf y9 zg nq nf nv zr zp y6 zq y7 zc zd;clear y8s;have yl:(F++[fa && fb]).length=i+1:=by simp[ye]
  generalize F++[fa && fb]=F1 at *
  have e0:=hE.h0;have e1:=hE.h1;have cFa:=y06 a s.1;have cFb:=y06 b s.2;simp only[encA]at cFa cFb;repeat(refine s_ ?_;simp[e0,ex])
  refine pcL (cFa) ?_;simp;repeat(refine s_ ?_;simp)
  have wq:=Qe hE.hN;have wu:=Qe ex;refine Eb rfl (Rf:=λ_ H'=>(∃q' v' PS' M',PH a b PS' F1 M' q' f' v' N i H'/\PS.length<=PS'.length/\M'.length<=10000000/\∃sl' ps' a' b',H'[E.length]?=some (.lp true none 130 sl' ps' a' b'))\/(H'[2]?=some (.vars [.i 0,.nils,.nils])/\H'[3]?=some (.vars [.i 5])/\∃sl' ps' a' b',H'[E.length]?=some (.lp false (some Code.ret) 130 sl' ps' a' b'))) ?_ ?_
  ·simp;refine A9 λH1 zt=>?_;have fS:PH a b PS F1 M q f' v N i H1:=by rw[zt];exact hE.app _
   have fx:H1[x]?=some (.vars [.i s.1,.i s.2]):=by rw[zt];exact Qb ex _
   have fl:H1.length=E.length+1:=by rw[zt];simp
   have fq:=congrArg (λh:List AObj=>h[E.length]?) zt;simp at fq;clear zt;have xn:=fS.nl;refine FC.mono (u0w a (by omega) s.1 E.length (by rfl) (by rfl)
    (λpre K=>∃q' v' PS' M',PH a b PS' F1 M' q' f' v' N i K/\PS'[i]?=some s/\PS.length<=PS'.length/\M'.length<=2048+pre.length * 2048/\K[x]?=some (.vars [.i s.1,.i s.2])/\K[E.length]? =H1[E.length]?)
    (λc K=>c=Code.ret/\K[2]?=some (.vars [.i 0,.nils,.nils])/\K[3]?=some (.vars [.i 5])/\∃sl' ps' a' b',K[E.length]?=some (.lp false (some Code.ret) 130 sl' ps' a' b'))
    H1 (λpre K ⟨q',v',PS',M',h1,h2,h3,h4,h5,h6⟩=>h6.trans fq)
    (λpre K L ⟨q',v',PS',M',h1,h2,h3,h4,h5,h6⟩=>⟨q',v',PS',M',h1.app L,h2,h3,h4,Qb h5 L,by rw[<-h6,zH (Qe (h6.trans fq))]⟩) ?_ ⟨q,v,PS,M,fS,hs,zS _,by simp;omega,fx,rfl⟩) ?_
   ·rintro pre m post K heq ⟨q',v',PS',M',ym,xo,yn,wv,kx,xp⟩ hlen1;simp[Rh];have h8:=xp.trans fq;have hlo:=ym.off h8 (by simp);have x2:E.length≠N:=by omega
    have x3:E.length≠x:=by omega
    have hd:=ym.setx (j:=E.length) (by omega) hlo.1 hlo.2.1 hlo.2.2 x2 .dead;have d6:=Qf h8 .dead;have dx:=Qc x3 kx .dead;have dl:(K.set E.length .dead).length=K.length:=by simp
    generalize K.set E.length .dead=Z at *
    have x4:=λL=>hd.app L;have z1:=λL=>(x4 L).h1;have zx:=λL=>Qb (G:=L) dx;repeat(refine s_ ?_;simp[z1,zx])
    refine pcL (cFb) ?_;simp;repeat(refine s_ ?_;simp)
    refine Q3 λW hW=>?_;have wS:PH a b PS' F1 M' q' f' v' N i W:=by rw[hW];exact hd.app _
    have wm:W[Z.length]?=some (.vars [.i m.src,.i m.dst,.list (m.on.map encL)]):=by rw[hW,zF (by simp)];simp
    have wx:W[x]?=some (.vars [.i s.1,.i s.2]):=by rw[hW];exact Qb dx _
    have w6:W[E.length]?=some .dead:=by rw[hW];exact Qb d6 _
    have wl:W.length=Z.length+1:=by rw[hW];simp
    have wy:=Qe d6;have xq:=(ha.mv m (Dk.1 (by rw[heq];simp)).1)
    have x5:m.src=s.1:=(Dk.1 (by rw[heq];simp:m∈L0 a s.1)).2;have zl:m∈a.mv:=(Dk.1 (by rw[heq];simp:m∈L0 a s.1)).1;clear hW ym hd x4 z1 zx;refine Eb rfl (Rf:=λ_ H'=>(∃q'' v'' PS'' M'',PH a b PS'' F1 M'' q'' f' v'' N i H'/\PS''[i]?=some s/\PS.length<=PS''.length/\M''.length<=2048+(pre.length+1) * 2048/\H'[x]?=some (.vars [.i s.1,.i s.2])/\H'[E.length]?=some .dead/\K.length<=H'.length/\∃sl' ps' a' b',H'[W.length]?=some (.lp true none 130 sl' ps' a' b'))\/(H'[2]?=some (.vars [.i 0,.nils,.nils])/\H'[3]?=some (.vars [.i 5])/\H'[E.length]?=some .dead/\∃sl' ps' a' b',H'[W.length]?=some (.lp false (some Code.ret) 130 sl' ps' a' b'))) ?_ ?_
    ·simp;refine A9 λH2 zh=>?_;have gS:PH a b PS' F1 M' q' f' v' N i H2:=by rw[zh];exact wS.app _
     have gm:H2[Z.length]?=some (.vars [.i m.src,.i m.dst,.list (m.on.map encL)]):=by rw[zh];exact Qb wm _
     have gx:H2[x]?=some (.vars [.i s.1,.i s.2]):=by rw[zh];exact Qb wx _
     have g6:H2[E.length]?=some .dead:=by rw[zh];exact Qb w6 _
     have gl:H2.length=W.length+1:=by rw[zh];simp
     have gq:=congrArg (λh:List AObj=>h[W.length]?) zh;simp at gq;clear zh;refine FC.mono (u0w b (by omega) s.2 W.length (by rfl) (by rfl)
      (λzu K2=>∃q'' v'' PS'' M'',PH a b PS'' F1 M'' q'' f' v'' N i K2/\PS''[i]?=some s/\PS.length<=PS''.length/\M''.length<=2048+pre.length * 2048+zu.length/\K2[Z.length]?=some (.vars [.i m.src,.i m.dst,.list (m.on.map encL)])/\K2[x]?=some (.vars [.i s.1,.i s.2])/\K2[E.length]?=some .dead/\K2[W.length]? =H2[W.length]?)
      (λc K2=>c=Code.ret/\K2[2]?=some (.vars [.i 0,.nils,.nils])/\K2[3]?=some (.vars [.i 5])/\K2[E.length]?=some .dead/\∃sl' ps' a' b',K2[W.length]?=some (.lp false (some Code.ret) 130 sl' ps' a' b'))
      H2 (λzu K2 ⟨q'',v'',PS'',M'',h1,h2,h3,h4,h5,h6,h7,h8⟩=>h8.trans gq)
      (λzu K2 L ⟨q'',v'',PS'',M'',h1,h2,h3,h4,h5,h6,h7,h8⟩=>⟨q'',v'',PS'',M'',h1.app L,h2,h3,h4,Qb h5 L,Qb h6 L,Qb h7 L,by rw[<-h8,zH (Qe (h8.trans gq))]⟩) ?_ ⟨q',v',PS',M',gS,xo,yn,by simp;omega,gm,gx,g6,rfl⟩) ?_
     ·rintro zu n pos2 K2 zi ⟨q'',v'',PS'',M'',x6,ya,zv,v8,km,xr,k6,yo⟩ hlen2;simp[Rh];have yb:n∈b.mv:=(Dk.1 (by rw[zi];simp:n∈L0 b s.2)).1;have x7:n.src=s.2:=(Dk.1 (by rw[zi];simp:n∈L0 b s.2)).2;have xt:pre.length<=2048:=by
       have h1:(L0 a s.1).length<=a.mv.length:=by unfold L0;exact yW _ _
       rw[heq]at h1;simp at h1;omega
      have xu:zu.length<=2048:=by
       have h1:(L0 b s.2).length<=b.mv.length:=by unfold L0;exact yW _ _
       rw[zi]at h1;simp at h1;omega
      have h9:=yo.trans gq;have z6:=x6.off h9 (by simp);have zm:W.length≠N:=by omega
      have zn:W.length≠x:=by omega
      have za:W.length≠E.length:=by omega
      have yc:W.length≠Z.length:=by omega
      have hd:=x6.setx (j:=W.length) (by omega) z6.1 z6.2.1 z6.2.2 zm .dead;have dW:=Qf h9 .dead;have yp:=Qc zn xr .dead;have dE:=Qc za k6 .dead;have dm:=Qc yc km .dead;have vb:(K2.set W.length .dead).length=K2.length:=by simp
      generalize K2.set W.length .dead=Y at *
      have o1:=(ha.mv m zl).on;have o2:=(hb.mv n yb).on;rw[ht]at o2;have x9:1<=a.types.toNat/\a.types.toNat<=16:=by have:=ha.types;omega
      have xw:m.on.length=n.on.length:=by rw[o1.1,o2.1]
      have yq:=z03 x9 [m.on,n.on] (λp hp=>by simp at hp;rcases hp with rfl|rfl;exact o1;exact o2);have cA:=x2u m.on n.on xw yq (by rw[o1.1];omega) (x1x o1) (x1x o2);simp only[encP]at cA;repeat(refine s_ ?_;simp[Qb dm])
      rcases zw:z08 m.on n.on with _|_
      ·have hA:Vy m.on n.on=([],5):=by unfold Vy;rw[zw];rfl
       rw[hA]at cA;refine pcL (cA) ?_;simp;repeat(refine s_ ?_;simp)
       refine Qa rfl (λ_=>?_) (λh=>by simp at h);have b2:=λL=>(hd.app L).h2;have b3:=λL=>(hd.app L).h3;repeat(refine s_ ?_;simp[b2,b3])
       have vc:8<W.length:=by omega
       exact⟨Qc (by omega) (Qc (by omega) (Qb dW _) _) _,.inr ⟨_,rfl,rfl,Qc (by omega) (Qc (by decide) (Qf (b2 _) _) _) _,Qc (by omega) (Qf (Qc (by decide) (b3 _) _) _) _,Qc za (Qc (by omega) (Qc (by omega) (Qb dE _) _) _) _,_,_,_,_,Qf (Qc (by omega) (Qc (by omega) (Qb dW _) _) _) _⟩⟩
      have hA:Vy m.on n.on=(Wp m.on n.on,0):=by unfold Vy;rw[zw];rfl
      rw[hA]at cA;have xy:=x06 o1 o2 zw;have cV:=j1p (Wp m.on n.on) (z03 x9 [Wp m.on n.on] (λp hp=>by simp at hp;rw[hp];exact xy));simp only[encP]at cV;refine pcL (cA) ?_;simp;repeat(refine s_ ?_;simp)
      refine Qa rfl (λh=>by simp at h) (λ_=>?_);repeat(refine s_ ?_;simp)
      refine pcL (cV) ?_;simp;refine Qa rfl (λhv=>?_) (λhv=>?_)
      ·repeat(refine s_ ?_;simp)
       exact⟨Qb dW _,.inl ⟨rfl,⟨⟨q'',v'',PS'',M'',(hd.app _).setx (by omega) z6.1 z6.2.1 z6.2.2 zm _,ya,zv,by first|omega|(simp;omega),Qc yc (Qb dm _) _,Qc zn (Qb yp _) _,Qc za (Qb dE _) _,by rw[gq];exact Qf (Qb dW _) _⟩,by first|omega|(simp;omega)⟩⟩⟩
      refine kpA [(2,.vptr 0 0),(3,.vptr 1 0),(4,.vptr 2 0),(5,.vptr 3 0),(7,.vptr 5 0),(8,.vptr 7 0),(9,.vptr 8 0),(10,.vptr N 0),(11,.vptr x 0),(12,.vptr Z.length 0),(13,.vptr Y.length 0),(14,.vptr (Y.length+1) 0)] ?_;have b5:=λL=>(hd.app L).h5;repeat(refine s_ ?_;simp[Qb dm,b5])
      have xa:=j20 hd.inv.nd (hd.inv.okK ha hb);have xz:=(ha.mv m zl).dst;have yr:=(hb.mv n yb).dst;have zy:okK (m.dst,n.dst):=by unfold okK;simp only;omega
      obtain⟨o,ho⟩:∃o,lkN PS''.zipIdx (m.dst,n.dst)=o:=⟨_,rfl⟩
      refine I6 rfl rfl rfl rfl (s:=(m.dst,n.dst)) rfl (hd.app _).h4 xa zy ?_;rw[ho];cases o with
      |some k=>
       have hk:=q2v ho;simp;repeat(refine s_ ?_;simp)
       refine Qa rfl (λh=>by simp at h) (λ_=>?_);refine kpA [(2,.vptr 0 0),(3,.vptr 1 0),(4,.vptr 2 0),(5,.vptr 3 0),(7,.vptr 5 0),(8,.vptr 7 0),(9,.vptr 8 0),(10,.vptr N 0),(11,.vptr x 0),(12,.vptr Z.length 0),(13,.vptr Y.length 0),(14,.vptr (Y.length+1) 0),(17,.i k)] ?_;refine Q3 λU hU=>?_;have hP:PH a b PS'' F1 M'' q'' f' v'' N i U:=by rw[hU];exact hd.app _
       have un:U[Y.length+1]?=some (.vars [.list ((Wp m.on n.on).map encL)]):=by rw[hU,zF (by simp)];simp
       have uW:U[W.length]?=some .dead:=by rw[hU];exact Qb dW _
       have uE:U[E.length]?=some .dead:=by rw[hU];exact Qb dE _
       have um:U[Z.length]?=some (.vars [.i m.src,.i m.dst,.list (m.on.map encL)]):=by rw[hU];exact Qb dm _
       have ux:U[x]?=some (.vars [.i s.1,.i s.2]):=by rw[hU];exact Qb yp _
       have w0:Y.length<=U.length:=by rw[hU];simp
       have zz:=ya;have zj:=zv;clear hU;have u8:=hP.h8;have uN:=hP.hN;obtain⟨w1,w2,yt⟩:=hP.ne;obtain⟨w3,w4,w5⟩:=hP.qf;have yu:=Qe u8;have u8s:∀L,(U.set v'' .dead++L)[8]?=some (.vars [.i a.types,.sl f' 1 0 F1.length,.sl v'' 3 0 M''.length]):=λL=>Qb (Qc yt.2.2.2.2.2.2.2.1 u8 _) _;have y2:(M''.map encMv).length=M''.length:=by simp
       repeat(refine s_ ?_;simp[u8,uN,un])
       refine apS T23 T73 ?_;simp[Qb hP.hv,Qg hP.hv,y2,u8s];refine⟨by simp[Wo,Qb hP.hv,Qg hP.hv,y2,u8s]<;>omega,?_⟩;obtain⟨X,hX⟩:∃X,X=(U.set v'' .dead++[AObj.arr 73 3 [.agg [.i i,.i k,.list ((Wp m.on n.on).map encL)]],AObj.arr 73 3 (M''.map encMv++[.agg [.i i,.i k,.list ((Wp m.on n.on).map encL)]])]).set 8 (.vars [.i a.types,.sl f' 1 0 F1.length,.sl (U.length+1) 3 0 (M''.length+1)]):=⟨_,rfl⟩
       rw[<-hX];have x8:X[8]?=some (.vars [.i a.types,.sl f' 1 0 F1.length,.sl (U.length+1) 3 0 (M''.length+1)]):=by rw[hX];exact Qf (u8s _) _
       have xv:X[U.length+1]?=some (.arr 73 3 (M''.map encMv++[encMv ⟨i,k,Wp m.on n.on⟩])):=by rw[hX,zE (by omega),zF (by simp)];simp
       have xk:∀j,j≠8->j≠v''->j<U.length->X[j]? =U[j]? :=λj h1 h2 h3=>by rw[hX,zE (Ne.symm h1),zH (by simpa using h3),zE (Ne.symm h2)]
       have yv:U.length<=X.length:=by rw[hX];simp
       clear hX;have z8:=hP.mv (m:=⟨i,k,Wp m.on n.on⟩) yv (hP.inv.add ha hb ht zz zl yb x5 x7 hk zw) x8 xv xk;have oW:=hP.off uW (by simp);have oE:=hP.off uE (by simp);have om:=hP.off um (by simp);have ox:=hP.off ux (by simp);have xW:=(xk W.length (by omega) oW.2.2 (Qe uW)).trans uW;have xE:=(xk E.length (by omega) oE.2.2 (Qe uE)).trans uE;have xm:=(xk Z.length (by omega) om.2.2 (Qe um)).trans um;have xx:=(xk x (by omega) ox.2.2 (Qe ux)).trans ux;have oX:=z8.off xW (by simp);exact⟨xW,.inl ⟨rfl,⟨⟨_,_,_,_,z8.setx (by omega) oX.1 oX.2.1 oX.2.2 zm _,zz,zj,by simp;omega,Qc yc xm _,Qc zn xx _,Qc za xE _,by rw[gq];exact Qf xW _⟩,by simp;omega⟩⟩⟩
      |none=>
       have y3:=j1h ho;simp;repeat(refine s_ ?_;simp)
       refine Qa rfl (λ_=>?_) (λh=>by simp at h);have b7:=λL=>(hd.app L).h7;have vd:=λL=>(hd.app L).h5;repeat(refine s_ ?_;simp[b7,b5])
       refine X6 rfl rfl rfl rfl (s:=(m.dst,n.dst)) rfl (d:=PS''.length) rfl (hd.app _).h4 xa zy (by rw[zip_fst];exact y3) ?_;simp;rw[<-d1q];refine Q3 λV hV=>?_;obtain⟨nq,nf,nv⟩:=hd.ne;have ve:=Qe hd.h4;have w7:=Qe hd.h7;have v4:V[4]?=some (mpN (PS''++[(m.dst,n.dst)]).zipIdx):=by rw[hV];exact Qf (Qb hd.h4 _) _
       have vk:∀j,j≠4->j<Y.length->V[j]? =Y[j]? :=λj h1 h2=>by rw[hV,zE (Ne.symm h1),zH h2]
       have v7:=(vk 7 (by decide) w7).trans hd.h7;have vq:=(vk q'' nq.2.2.2.2.1 (Qe hd.hq)).trans hd.hq;have vt:V[Y.length+2]?=some (.vars [.i m.dst,.i n.dst]):=by rw[hV,zE (by omega),zF (by simp)];simp
       have vn:V[Y.length+1]?=some (.vars [.list ((Wp m.on n.on).map encL)]):=by rw[hV,zE (by omega),zF (by simp)];simp
       have vl:V.length=Y.length+3:=by rw[hV];simp
       clear hV;have xb:(PS''.map pqr).length=PS''.length:=by simp
       have v7s:∀L,(V.set q'' .dead++L)[7]?=some (.vars [.sl q'' 2 0 PS''.length]):=λL=>Qb (Qc nq.2.2.2.2.2.2.1 v7 _) _;have w8:PS''.length<=65536:=yP hd.inv.len (yP (vU xf.2 xg.2) (by decide));repeat(refine s_ ?_;simp[v7,vt])
       refine apS T41 T66 ?_;simp[Qb vq,Qg vq,xb,v7s];refine⟨by simp[Wo,Qb vq,Qg vq,xb,v7s]<;>omega,?_⟩;refine kpA [(2,.vptr 0 0),(3,.vptr 1 0),(4,.vptr 2 0),(5,.vptr 3 0),(7,.vptr 5 0),(8,.vptr 7 0),(9,.vptr 8 0),(10,.vptr N 0),(11,.vptr x 0),(12,.vptr Z.length 0),(13,.vptr Y.length 0),(14,.vptr (Y.length+1) 0),(17,.i PS''.length)] ?_;obtain⟨k,yd⟩:∃k,k=PS''.length:=⟨_,rfl⟩
       rw[<-yd];refine Q3 λU hU=>?_;have yw:F1.length<=PS''.length:=by omega
       have e7:U[7]?=some (.vars [.sl (V.length+1) 2 0 (PS''.length+1)]):=by rw[hU,yd];exact Qf (v7s _) _
       have w9:U[V.length+1]?=some (.arr 66 2 (PS''.map pqr++[pqr (m.dst,n.dst)])):=by rw[hU,zE (by omega),zF (by simp)];simp[pqr]
       have ek:∀j,j≠7->j≠q''->j<V.length->U[j]? =V[j]? :=λj h1 h2 h3=>by rw[hU,zE (Ne.symm h1),zH (by simpa using h3),zE (Ne.symm h2)]
       have vf:V.length<=U.length:=by rw[hU];simp
       clear hU;have u4:U[4]?=some (mpN (PS''++[(m.dst,n.dst)]).zipIdx):=(ek 4 (by decide) (Ne.symm nq.2.2.2.2.1) (by omega)).trans v4;have wa:PrI a b (PS''++[(m.dst,n.dst)]) F1 M'':=hd.inv.ps ⟨xz,yr⟩ y3 yw;have hP:PH a b (PS''++[(m.dst,n.dst)]) F1 M'' (V.length+1) f' v'' N i U:=hd.ps (t:=(m.dst,n.dst)) (by omega) wa u4 e7 w9 (λj h1 h2 h3 h4=>(ek j h2 h3 (by omega)).trans (vk j h1 h4));have lift:∀ {j:Nat} {o:AObj},Y[j]?=some o->(∀e sz xs,o≠ .arr e sz xs)->8<j->U[j]?=some o:=λ{j o} h1 h2 h3=>by have h4:=hd.off h1 h2;exact(ek j (by omega) h4.1 (by have:=Qe h1;omega)).trans ((vk j (by omega) (Qe h1)).trans h1)
       have vg:q''<V.length:=by have:=Qe hd.hq;omega
       have yx:Y.length+1≠q'':=by have:=Qe hd.hq;omega
       have un:U[Y.length+1]?=some (.vars [.list ((Wp m.on n.on).map encL)]):=(ek _ (by omega) yx (by omega)).trans vn;have uW:U[W.length]?=some .dead:=lift dW (by simp) (by omega);have uE:U[E.length]?=some .dead:=lift dE (by simp) (by omega);have um:U[Z.length]?=some (.vars [.i m.src,.i m.dst,.list (m.on.map encL)]):=lift dm (by simp) (by omega);have ux:U[x]?=some (.vars [.i s.1,.i s.2]):=lift yp (by simp) xl;have w0:Y.length<=U.length:=by omega
       have hk:(PS''++[(m.dst,n.dst)])[k]?=some (m.dst,n.dst):=by rw[yd,zF (by simp)];simp
       have zz:(PS''++[(m.dst,n.dst)])[i]?=some s:=by rw[zH (zB.1 ya).1];exact ya
       have zj:PS.length<=(PS''++[(m.dst,n.dst)]).length:=by simp;omega
       clear yd vk ek;have u8:=hP.h8;have uN:=hP.hN;obtain⟨w1,w2,yt⟩:=hP.ne;obtain⟨w3,w4,w5⟩:=hP.qf;have yu:=Qe u8;have u8s:∀L,(U.set v'' .dead++L)[8]?=some (.vars [.i a.types,.sl f' 1 0 F1.length,.sl v'' 3 0 M''.length]):=λL=>Qb (Qc yt.2.2.2.2.2.2.2.1 u8 _) _;have y2:(M''.map encMv).length=M''.length:=by simp
       repeat(refine s_ ?_;simp[u8,uN,un])
       refine apS T23 T73 ?_;simp[Qb hP.hv,Qg hP.hv,y2,u8s];refine⟨by simp[Wo,Qb hP.hv,Qg hP.hv,y2,u8s]<;>omega,?_⟩;obtain⟨X,hX⟩:∃X,X=(U.set v'' .dead++[AObj.arr 73 3 [.agg [.i i,.i k,.list ((Wp m.on n.on).map encL)]],AObj.arr 73 3 (M''.map encMv++[.agg [.i i,.i k,.list ((Wp m.on n.on).map encL)]])]).set 8 (.vars [.i a.types,.sl f' 1 0 F1.length,.sl (U.length+1) 3 0 (M''.length+1)]):=⟨_,rfl⟩
       rw[<-hX];have x8:X[8]?=some (.vars [.i a.types,.sl f' 1 0 F1.length,.sl (U.length+1) 3 0 (M''.length+1)]):=by rw[hX];exact Qf (u8s _) _
       have xv:X[U.length+1]?=some (.arr 73 3 (M''.map encMv++[encMv ⟨i,k,Wp m.on n.on⟩])):=by rw[hX,zE (by omega),zF (by simp)];simp
       have xk:∀j,j≠8->j≠v''->j<U.length->X[j]? =U[j]? :=λj h1 h2 h3=>by rw[hX,zE (Ne.symm h1),zH (by simpa using h3),zE (Ne.symm h2)]
       have yv:U.length<=X.length:=by rw[hX];simp
       clear hX;have z8:=hP.mv (m:=⟨i,k,Wp m.on n.on⟩) yv (hP.inv.add ha hb ht zz zl yb x5 x7 hk zw) x8 xv xk;have oW:=hP.off uW (by simp);have oE:=hP.off uE (by simp);have om:=hP.off um (by simp);have ox:=hP.off ux (by simp);have xW:=(xk W.length (by omega) oW.2.2 (Qe uW)).trans uW;have xE:=(xk E.length (by omega) oE.2.2 (Qe uE)).trans uE;have xm:=(xk Z.length (by omega) om.2.2 (Qe um)).trans um;have xx:=(xk x (by omega) ox.2.2 (Qe ux)).trans ux;have oX:=z8.off xW (by simp);exact⟨xW,.inl ⟨rfl,⟨⟨_,_,_,_,z8.setx (by omega) oX.1 oX.2.1 oX.2.2 zm _,zz,zj,by simp;omega,Qc yc xm _,Qc zn xx _,Qc za xE _,by rw[gq];exact Qf xW _⟩,by simp;omega⟩⟩⟩
     rintro _ H' (⟨⟨q'',v'',PS'',M'',h1,h2,h3,h4,h5,h6,h7,h8⟩,h9⟩|⟨c,rfl,h2,h3,h4,h5⟩)
     ·refine .inl ⟨q'',v'',PS'',M'',h1,h2,h3,?_,h6,h7,by omega,_,_,_,_,h8.trans gq⟩;have wb:(L0 b s.2).length<=b.mv.length:=by unfold L0;exact yW _ _
      omega
     exact .inr ⟨h2,h3,h4,h5⟩
    rintro _ H' (⟨q'',v'',PS'',M'',h1,h2,h3,h4,h6,h7,h8,sl',ps',a',b',h9⟩|⟨h2,h3,h4,sl',ps',a',b',h5⟩)
    ·refine⟨true,none,_,_,_,_,_,by simpa using h9,?_⟩;simp;have z6:=h1.off h9 (by simp);have zm:W.length≠N:=by omega
     have zn:W.length≠x:=by omega
     have za:W.length≠E.length:=by omega
     have k1:=h1.setx (j:=W.length) (by omega) z6.1 z6.2.1 z6.2.2 zm .dead;have k7:=Qc za h7 .dead;have k6:=Qc zn h6 .dead;have kl:(H'.set W.length .dead).length=H'.length:=by simp
     generalize H'.set W.length .dead=J at *
     have zk:=k1.off k7 (by simp);have wc:K.length<=J.length:=by rw[kl];exact h8
     exact⟨k7,.inl ⟨rfl,⟨⟨q'',v'',PS'',M'',k1.setx (by omega) zk.1 zk.2.1 zk.2.2 x2 _,h2,h3,by first|omega|(simp;omega),Qc x3 k6 _,by rw[fq];exact Qf k7 _⟩,wc⟩⟩⟩
    refine⟨false,some Code.ret,_,_,_,_,_,by simpa using h5,?_⟩;simp;repeat(refine s_ ?_;simp)
    have za:W.length≠E.length:=by omega
    exact⟨Qc za h4 _,.inr ⟨_,rfl,rfl,Qc (by omega) (Qc (by omega) h2 _) _,Qc (by omega) (Qc (by omega) h3 _) _,_,_,_,_,Qf (Qc za h4 _) _⟩⟩
   rintro _ H' (⟨⟨q',v',PS',M',h1,h2,h3,h4,h5,h6⟩,h7⟩|⟨c,rfl,h2,h3,h4⟩)
   ·refine .inl ⟨q',v',PS',M',h1,h3,?_,_,_,_,_,h6.trans fq⟩;have wb:(L0 a s.1).length<=a.mv.length:=by unfold L0;exact yW _ _
    omega
   exact .inr ⟨h2,h3,h4⟩
  rintro _ H' (⟨q',v',PS',M',h1,h2,h3,sl',ps',a',b',h4⟩|⟨h2,h3,sl',ps',a',b',h4⟩)
  ·refine⟨true,none,_,_,_,_,_,by simpa using h4,?_⟩;simp;have hlo:=h1.off h4 (by simp);have xn:=h1.nl;have k1:=h1.setx (j:=E.length) (by omega) hlo.1 hlo.2.1 hlo.2.2 (by omega) .dead;clear h1 h4 hlo;generalize H'.set E.length .dead=J at *;refine kpA [(2,.vptr 0 0),(3,.vptr 1 0),(4,.vptr 2 0),(5,.vptr 3 0),(7,.vptr 5 0),(8,.vptr 7 0),(9,.vptr 8 0),(10,.vptr N 0)] ?_
   have j7:=k1.h7;have j8:=k1.h8;have jN:=k1.hN;have j2:=k1.h2;have j3:=k1.h3;have j22:∀y,(J.set 2 y)[2]?=some y:=λy=>Qf j2 y;have j23:∀y,(J.set 2 y)[3]?=some (.vars [.i 0]):=λy=>Qc (by decide) j3 y;have j32:∀y z,((J.set 2 y).set 3 z)[2]?=some y:=λy z=>Qc (by decide) (j22 y) z;have j33:∀y z,((J.set 2 y).set 3 z)[3]?=some z:=λy z=>Qf (j23 y) z;by_cases c1:256<PS'.length
   ·repeat(refine s_ ?_;simp[j7,j8,c1])
    refine Qa rfl (λ_=>?_) (λh=>by first|(simp at h;done)|(simp at h;omega));repeat(refine s_ ?_;simp[j2,j3,j22,j23,j32,j33])
    exact .inl rfl
   by_cases c2:2048<M'.length
   ·repeat(refine s_ ?_;simp[j7,j8,c1,c2])
    refine Qa rfl (λ_=>?_) (λh=>by first|(simp at h;done)|(simp at h;omega));repeat(refine s_ ?_;simp[j2,j3,j22,j23,j32,j33])
    exact .inl rfl
   repeat(refine s_ ?_;simp[j7,j8,c1,c2])
   refine Qa rfl (λh=>by first|(simp at h;done)|(simp at h;omega)) (λ_=>?_);have hw:=wz i (by omega);repeat(refine s_ ?_;simp[jN,hw])
   exact lkB (ih (i+1,J.length,q',f',v',PS',F1,M',_) ⟨k1.cell (i+1),yl,by simp only;omega,by simp only;omega,by simp only;omega⟩ (by simp only;omega))
  refine⟨false,some Code.ret,_,_,_,_,_,by simpa using h4,?_⟩;simp;have k2:=Qc (j:=E.length) (by omega) h2 .dead;have k3:=Qc (j:=E.length) (by omega) h3 .dead;repeat(refine s_ ?_;simp[k2,k3])
  exact .inl rfl
 have we:i=PS.length:=by simp at xi;omega
 have h8:=hS.h8;have y4:=hS.inv.sim ha (by omega) yz x0;obtain⟨_,nf,nv⟩:=hS.ne;have wg:=hS.qf.2.2;refine kpA [(4,.vptr 2 0),(5,.vptr 3 0),(9,.vptr 8 0)] ?_;have wh:tB F.length (F.map AV.bool)=F.map AV.bool:=zT (by simp);have zl:tB M.length (M.map encMv)=M.map encMv:=zT (by simp);refine Q0 f hS.hf 8 hS.h8 ?_;simp;rw[wh];have g8:∀y,((H.set f .dead).set 8 y)[8]?=some y:=λy=>Qf (Qc nf.2.2.2.2.2.2.2.1 hS.h8 _) _;have gv:∀y,((H.set f .dead).set 8 y)[v]?=some (.arr 73 3 (M.map encMv)):=λy=>Qc (Ne.symm nv.2.2.2.2.2.2.2.1) (Qc wg hS.hv _) _;have g2:∀y,((H.set f .dead).set 8 y)[2]?=some (.vars [.i 0,.nils,.nils]):=λy=>Qc (by decide) (Qc nf.2.2.1 hS.h2 _) _;have g3:∀y,((H.set f .dead).set 8 y)[3]?=some (.vars [.i 0]):=λy=>Qc (by decide) (Qc nf.2.2.2.1 hS.h3 _) _;refine Q0 v (gv _) 8 (g8 _) ?_;simp;rw[zl];have xc:∀y z,((((H.set f .dead).set 8 y).set v .dead).set 8 z)[8]?=some z:=λy z=>Qf (Qc nv.2.2.2.2.2.2.2.1 (g8 y) _) _;have xd:∀y z,((((H.set f .dead).set 8 y).set v .dead).set 8 z)[2]?=some (.vars [.i 0,.nils,.nils]):=λy z=>Qc (by decide) (Qc nv.2.2.1 (g2 y) _) _;have xe:∀y z,((((H.set f .dead).set 8 y).set v .dead).set 8 z)[3]?=some (.vars [.i 0]):=λy z=>Qc (by decide) (Qc nv.2.2.2.1 (g3 y) _) _;refine Q3 λK hK=>?_;have k8:K[8]?=some (.vars [.i a.types,.list (F.map .bool),.list (M.map encMv)]):=by rw[hK];exact xc _ _
 have k2:K[2]?=some (.vars [.i 0,.nils,.nils]):=by rw[hK];exact xd _ _
 have k3:K[3]?=some (.vars [.i 0]):=by rw[hK];exact xe _ _
 have k22:∀y,(K.set 2 y)[2]?=some y:=λy=>Qf k2 y;have k23:∀y,(K.set 2 y)[3]?=some (.vars [.i 0]):=λy=>Qc (by decide) k3 y;have k32:∀y z,((K.set 2 y).set 3 z)[2]?=some y:=λy z=>Qc (by decide) (k22 y) z;have k33:∀y z,((K.set 2 y).set 3 z)[3]?=some z:=λy z=>Qf (k23 y) z;clear hK xc xd xe g8 gv g2 g3;repeat(refine s_ ?_;simp[k8,k2,k3,k22,k23,k32,k33])
 exact .inr ⟨⟨a.types,F,M⟩,rfl,y4.1,rfl,PS,y4.2⟩
end
section
open Go Go.Proofs Go.Maps Go.RowKit
def Bz(a:Aut)(cl:List Nat)(s:Int)(j t:Nat):List Prd:=(((Wz a s).take j).filter λm=>decide (clD cl m=t)).map (·.on)
def L3(ks:List Nat)(t:Nat):List Nat:=if t∈ks then ks else ks++[t]
def Zw(a:Aut)(cl:List Nat)(s:Int)(j:Nat):List Nat:=((Wz a s).take j).foldl (λks m=>L3 ks (clD cl m)) []
def q2a(a:Aut)(cl:List Nat)(s:Int)(t:Nat):Bz a cl s (Wz a s).length t=Aw a cl s t:=by simp[Bz,Aw]
def w1m(a:Aut)(cl:List Nat)(s:Int){j:Nat}(h:j<(Wz a s).length):Bz a cl s (j+1)=λt=>if t=clD cl (Wz a s)[j]then Bz a cl s j (clD cl (Wz a s)[j])++[(Wz a s)[j].on]else Bz a cl s j t:=by
 funext t;unfold Bz;rw[zR h,wZ,yR,List.filter_cons,List.filter_nil];by_cases e:t=clD cl (Wz a s)[j]
 ·subst e;simp
 rw[if_neg e,if_neg (by simpa using λk=>e k.symm)];simp
def d0d(a:Aut)(cl:List Nat)(s:Int):Zw a cl s 0=[]:=by simp[Zw]
def z1t(a:Aut)(cl:List Nat)(s:Int){j:Nat}(h:j<(Wz a s).length):Zw a cl s (j+1)=L3 (Zw a cl s j) (clD cl (Wz a s)[j]):=by unfold Zw;rw[zR h,wJ];rfl
def v0v{ks:List Nat}{t u:Nat}:u∈L3 ks t↔u∈ks\/u=t:=by
 unfold L3;split
 ·rename_i h;exact⟨.inl,λk=>k.elim id (λe=>e▸h)⟩
 simp
def v29{ks:List Nat}{t:Nat}(h:ks.Nodup):(L3 ks t).Nodup:=by
 unfold L3;split
 ·exact h
 rename_i hn;rw[List.nodup_append];refine⟨h,by simp,λx hx y hy e=>hn ?_⟩;rw[zP]at hy;rw[<-hy,<-e];exact hx
def q1m(cl:List Nat):∀(l:List Mv) (ks:List Nat) (t:Nat),t∈l.foldl (λks m=>L3 ks (clD cl m)) ks↔t∈ks\/∃m∈l,clD cl m=t
 |[],ks,t=>by simp
 |m::l,ks,t=>by
  rw[List.foldl_cons,q1m cl l,v0v];simp only[yB];constructor
  ·rintro((h|rfl)|⟨m',h1,h2⟩)
   ·exact .inl h
   ·exact .inr ⟨m,.inl rfl,rfl⟩
   exact .inr ⟨m',.inr h1,h2⟩
  rintro(h|⟨m',rfl|h1,h2⟩)
  ·exact .inl (.inl h)
  ·exact .inl (.inr h2.symm)
  exact .inr ⟨m',h1,h2⟩
def j2t(cl:List Nat):∀(l:List Mv) (ks:List Nat),ks.Nodup->(l.foldl (λks m=>L3 ks (clD cl m)) ks).Nodup
 |[],_,h=>h
 |m::l,ks,h=>j2t cl l _ (v29 h)
def Bl{a:Aut}{cl:List Nat}{s:Int}{j t:Nat}:t∈Zw a cl s j↔∃m∈(Wz a s).take j,clD cl m=t:=by unfold Zw;rw[q1m];simp
def x2d(a:Aut)(cl:List Nat)(s:Int)(j:Nat):(Zw a cl s j).Nodup:=j2t cl _ _ List.nodup_nil
def k1r{a:Aut}{cl:List Nat}{s:Int}{j t:Nat}(h:t∉Zw a cl s j):Bz a cl s j t=[]:=by unfold Bz;rw[List.map_eq_nil_iff,List.filter_eq_nil_iff];intro m hm k;exact h (Bl.2 ⟨m,hm,by simpa using k⟩)
attribute [simp] c2c
def kvG(ks:List Nat)(gs:Nat->List Prd)(L:Nat->Nat):List (AV×AV):=ks.map λt:Nat=>(.i t,.sl (L t) 1 0 (gs t).length)
def u2i{ks:List Nat}(hn:ks.Nodup){gs:Nat->List Prd}{L:Nat->Nat}{j t np:Nat}(hj:ks[j]?=some t)(p:Prd):
  kvG ks (λu=>if u=t then gs t++[p]else gs u) (λu=>if u=t then np else L u)=(kvG ks gs L).set j (.i t,.sl np 1 0 ((gs t).length+1)):=by
 unfold kvG;refine xL λi=>?_;obtain⟨z6,z1⟩:=zB.1 hj;by_cases hi:i<ks.length
 ·by_cases e:i=j
  ·subst e;rw[zK (by simpa using hi),zU,hj];simp
  rw[zE (Ne.symm e),zU,zU,zI hi];have:ks[i]≠t:=λk=>e ((vY hn).1 (k.trans z1.symm));simp[this]
 rw[y_ (by simp;omega),y_ (by simp;omega)]
def u2b{ks:List Nat}{gs:Nat->List Prd}{L:Nat->Nat}{t np:Nat}(ht:t∉ks)(h0:gs t=[])(p:Prd):
  kvG (ks++[t]) (λu=>if u=t then gs t++[p]else gs u) (λu=>if u=t then np else L u)=kvG ks gs L++[(.i t,.sl np 1 0 1)]:=by
 unfold kvG;rw[yR]
 congr 1
 ·refine xD λu hu=>?_;have:u≠t:=λe=>ht (e▸hu);simp[this]
 simp[h0]
structure MG (K:List AObj) (M:Nat) (ks:List Nat) (gs:Nat->List Prd) (L:Nat->Nat) (H:List AObj):Prop where
 map:H[M]?=some (.mv (kvG ks gs L))
 leaf:∀t∈ks,H[L t]?=some (.arr 70 1 ((gs t).map encP))
 inj:∀t t',t∈ks->t'∈ks->L t=L t'->t=t'
 ne:∀t∈ks,L t≠M
 geM:K.length<=M
 geL:∀t∈ks,K.length<=L t
 keep:∀j,j<K.length->H[j]? =K[j]?
def MG.grow{K:List AObj}{M:Nat}{ks:List Nat}{gs:Nat->List Prd}{L:Nat->Nat}{H:List AObj}(h:MG K M ks gs L H)(E:List AObj):MG K M ks gs L (H++E):=by have hm:=Qe h.map;have z1:=h.geM;exact⟨Qb h.map E,λt ht=>Qb (h.leaf t ht) E,h.inj,h.ne,h.geM,h.geL,λj hj=>by rw[zH (by omega)];exact h.keep j hj⟩
def MG.put {K:List AObj} {M:Nat} {ks:List Nat} {gs:Nat->List Prd} {L:Nat->Nat} {H H':List AObj} (h:MG K M ks gs L H) {t:Nat} {p:Prd} {np:Nat} (zb:H.length<=np)
  (z8:H'[M]?=some (.mv (kvG (L3 ks t) (λu=>if u=t then gs t++[p]else gs u) (λu=>if u=t then np else L u)))) (z6:H'[np]?=some (.arr 70 1 ((gs t++[p]).map encP)))
  (hk:∀j,j<H.length->j≠M->(t∈ks->j≠L t)->H'[j]? =H[j]?):MG K M (L3 ks t) (λu=>if u=t then gs t++[p]else gs u) (λu=>if u=t then np else L u) H':=by
 have hm:=Qe h.map;have hL:=λu hu=>Qe (h.leaf u hu);have z1:∀u,u∈L3 ks t->u≠t->u∈ks:=λu hu za=>(v0v.1 hu).resolve_right za;refine⟨z8,λu hu=>?_,λu v hu hv e=>?_,λu hu=>?_,h.geM,λu hu=>?_,λj hj=>?_⟩
 ·by_cases e:u=t
  ·subst e;simpa using z6
  simp only[e,if_false];have z7:=z1 u hu e;rw[hk _ (hL u z7) (h.ne u z7) (λht k=>e (h.inj u t z7 ht k))];exact h.leaf u z7
 ·by_cases e1:u=t
  ·by_cases e2:v=t
   ·rw[e1,e2]
   simp only[e1,e2,if_true,if_false]at e;have:=hL v (z1 v hv e2);omega
  by_cases e2:v=t
  ·simp only[e1,e2,if_true,if_false]at e;have:=hL u (z1 u hu e1);omega
  simp only[e1,e2,if_false]at e;exact h.inj u v (z1 u hu e1) (z1 v hv e2) e
 ·by_cases e:u=t
  ·simp only[e,if_true];omega
  simp only[e,if_false];exact h.ne u (z1 u hu e)
 ·have:=h.geM;by_cases e:u=t
  ·simp only[e,if_true];omega
  simp only[e,if_false];exact h.geL u (z1 u hu e)
 have zc:=h.geM;rw[hk j (by omega) (by omega) (λht e=>by have:=h.geL t ht;omega)];exact h.keep j hj
section
variable {nt k:Nat} {S:AS} {ops:Array Oper} {o:Oper} {R:AS->Prop}
def w1p{ks:List Nat}(hk:∀t∈ks,t<=1000000)(gs:Nat->List Prd)(L:Nat->Nat):∀p∈kvG ks gs L,isKey prog 3 p.1:=λp hp=>by obtain⟨t,ht,rfl⟩:=zO.1 hp;exact Rb ⟨by omega,by have:=hk t ht;omega⟩
def Lp {wr:Bool} (hw:Qn ops S o=some true) (hd:Wx nt o=true) {x ix:Operand} (ho:o.op= .lookup 236 x ix false) {id:Nat} (hx:rho S.sl x=some (.mref id)) {t:Nat} (z1:rho S.sl ix=some (.i t)) {ks:List Nat} {gs:Nat->List Prd} {L:Nat->Nat} (z6:S.hp[id]?=some (.mv (kvG ks gs L)))
  (hk:∀t∈ks,t<=1000000) (ht:t<=1000000) (hR:R (S.putD o.dst (if t∈ks then .sl (L t) 1 0 (gs t).length else .nils))):Q7 prog nt k wr ops o S R:=by
 refine Cy tOk hw hd ho c2c rfl T87 Uw hx z1 z6 (Rb ⟨by omega,by omega⟩) (w1p hk gs L) (z:= .nils) (λw I=> .nils ..) (λj p hp he=>?_) (λz7=>?_)
 ·unfold kvG at hp;rw[zU]at hp;obtain⟨u,hu,rfl⟩:=zQ.1 hp;have z8:u=t:=by simp at he;omega
  subst z8;rw[if_pos (zJ hu)]at hR;exact hR
 have:t∉ks:=λh=>z7 _ (zO.2 ⟨t,h,rfl⟩) rfl;rw[if_neg this]at hR;exact hR
def Xc (hw:Qn ops S o=some true) (hd:Wx nt o=true) {x ix y:Operand} (ho:o.op= .mapUpdate 236 x ix y) {id:Nat} (hx:rho S.sl x=some (.mref id)) {t:Nat} (z6:rho S.sl ix=some (.i t)) {np n:Nat} (hy:rho S.sl y=some (.sl np 1 0 n)) {ks:List Nat} {gs:Nat->List Prd} {L:Nat->Nat} (z7:S.hp[id]?=some (.mv (kvG ks gs L)))
  (hk:∀t∈ks,t<=1000000) (ht:t<=1000000) (z8:ks.Nodup) (h0:t∉ks->gs t=[]) (p:Prd) (hn:n=(gs t).length+1) (hR:R (({ S with hp:=S.hp.set id (.mv (kvG (L3 ks t) (λu=>if u=t then gs t++[p]else gs u) (λu=>if u=t then np else L u))) }:AS).putD o.dst (.tup []))):Q7 prog nt k true ops o S R:=by
 subst hn;refine Hc tOk hw hd ho c2c rfl Uw hx z6 hy z7 (Rb ⟨by omega,by omega⟩) (w1p hk gs L) (λj q hq he=>?_) (λza=>?_)
 ·unfold kvG at hq;rw[zU]at hq;obtain⟨u,hu,rfl⟩:=zQ.1 hq;have zb:u=t:=by simp at he;omega
  subst zb;have ha:L3 ks u=ks:=by unfold L3;rw[if_pos (zJ hu)]
  rw[ha,u2i z8 hu p]at hR;exact hR
 have z1:t∉ks:=λh=>za _ (zO.2 ⟨t,h,rfl⟩) rfl;have ha:L3 ks t=ks++[t]:=by unfold L3;rw[if_neg z1]
 rw[ha,u2b z1 (h0 z1) p]at hR;rw[h0 z1];exact hR
end
end
section
open Go Go.Proofs Go.Maps Go.RowKit
def kvX(ks:List Nat)(gs:Nat->List Prd)(L:Nat->Nat)(k:Nat):List (AV×AV):=ks.mapIdx λi (t:Nat)=>(.i t,if i<k then .list ((gs t).map encP)else .sl (L t) 1 0 (gs t).length)
def g1i(ks:List Nat)(gs:Nat->List Prd)(L:Nat->Nat):kvX ks gs L 0=kvG ks gs L:=by unfold kvX kvG;refine xL λi=>?_;rw[vK,zU];cases ks[i]? <;>simp
def y2s(ks:List Nat)(gs:Nat->List Prd)(L:Nat->Nat):kvX ks gs L ks.length=ks.map λt:Nat=>(.i t,.list ((gs t).map encP)):=by
 unfold kvX;refine xL λi=>?_;rw[vK,zU];by_cases h:i<ks.length
 ·rw[zI h];simp[h]
 rw[y_ (by omega)];simp
def f1a{ks:List Nat}(hn:ks.Nodup){gs:Nat->List Prd}{L:Nat->Nat}(z1:∀t t',t∈ks->t'∈ks->L t=L t'->t=t'){k t:Nat}(hk:ks[k]?=some t):
  (kvX ks gs L k).map (λp=>(p.1,p.2.fz (L t) 1 ((gs t).map encP)))=kvX ks gs L (k+1):=by
 obtain⟨z7,z6⟩:=zB.1 hk;unfold kvX;refine xL λi=>?_;rw[zU,vK,vK];by_cases h:i<ks.length
 ·rw[zI h];simp only[Option.map_some];by_cases e:i=k
  ·subst e;rw[z6,if_neg (by omega),if_pos (by omega),AV.fz,if_pos ⟨rfl,rfl,by simp⟩];simp[zT]
  by_cases h2:i<k
  ·rw[if_pos h2,if_pos (by omega)];simp[AV.fz]
  rw[if_neg h2,if_neg (by omega),AV.fz,if_neg];rintro⟨e2,_⟩;have:=z1 _ _ (zL h) (zJ hk) e2;exact e ((vY hn).1 (this.trans z6.symm))
 rw[y_ (by omega)];simp
section
variable {P:Program} [Env P] {nt kk:Nat} {cd:Code} {Q:Exit->AS->Prop}
def MG.freeze {M:Nat} {ks:List Nat} {gs:Nat->List Prd} {L:Nat->Nat} {sl:List (Nat×AV)} (hn:ks.Nodup) (z6:∀t t',t∈ks->t'∈ks->L t=L t'->t=t') (z8:∀t∈ks,L t≠M)
  (za:∀t∈ks,sl.map (λp=>(p.1,p.2.fz (L t) 1 ((gs t).map encP)))=sl):∀(d k:Nat) (H:List AObj),k+d=ks.length->H[M]?=some (.mv (kvX ks gs L k))->(∀i t,k<=i->ks[i]?=some t->H[L t]?=some (.arr 70 1 ((gs t).map encP)))->
  (∀H',H'[M]?=some (.mv (kvX ks gs L ks.length))->H'.length=H.length->(∀j,j<H.length->j≠M->(∀t∈ks,j≠L t)->H'[j]? =H[j]?)->AWP P nt kk cd Q ⟨sl,H'⟩)->AWP P nt kk cd Q ⟨sl,H⟩
 |0,k,H,hd,hm,hl,h=>by
  have:k=ks.length:=by omega
  subst this;exact h H hm rfl λ_ _ _ _=>rfl
 |d+1,k,H,hd,hm,hl,h=>by
  have zb:k<ks.length:=by omega
  have hk:ks[k]?=some ks[k]:=zI zb;have z1:=zL zb;generalize ks[k]=t at *
  have zf:=hl k t (zS _) hk;have zg:=Qe hm;refine Iz (L t) zf M hm (Ne.symm (z8 t z1)) rfl ?_;rw[za t z1,AObj.fz,f1a hn z6 hk];refine MG.freeze hn z6 z8 za d (k+1) _ (by omega) (zK (by simpa using zg)) (λi u hi hu=>?_) λH' zh z7 zi=>h H' zh (by simpa using z7) λj hj zc zd=>?_
  ·have ze:=zJ hu;rw[zE (Ne.symm (z8 u ze)),zE (λe2=>?_)]
   ·exact hl i u (by omega) hu
   have e3:=z6 t u z1 ze e2;subst e3;obtain⟨h1,h2⟩:=zB.1 hk;obtain⟨h3,h4⟩:=zB.1 hu;have:=(vY hn).1 (h2.trans h4.symm);omega
  rw[zi j (by simpa using hj) zc zd,zE (Ne.symm zc),zE (Ne.symm (zd t z1))]
end
end
def w0z{o:List Nat}{c:Nat}(h:c∈o):∃i,Kz o c=i/\o[i]?=some c/\∀j,j<i->o[j]? ≠some c:=by
 unfold Kz;cases hf:o.findIdx? λd=>decide (d=c)with
 |none=>rw[vT]at hf;have:=hf c h;simp at this
 |some i=>rw[List.findIdx?_eq_some_iff_getElem]at hf;obtain⟨h1,h2,h3⟩:=hf;refine⟨i,rfl,by rw[zI h1];simpa using h2,λj hj e=>?_⟩;obtain⟨hl,e2⟩:=zB.1 e;have:=h3 j hj;rw[e2]at this;simp at this
def v0d{o:List Nat}{c:Nat}(h:c∈o)(r:List Nat):Kz (o++r) c=Kz o c:=by
 obtain⟨i,e,h1,h2⟩:=w0z h;obtain⟨k,e',h3,h4⟩:=w0z (o:=o++r) (yY r h);rw[e,e'];have z1:=Ep h1;rcases Nat.lt_trichotomy i k with hl|hl|hl
 ·have:=h4 i hl;rw[zH z1]at this;exact absurd h1 this
 ·exact hl.symm
 rw[zH (by omega)]at h3;exact absurd h3 (h2 k hl)
def x1i{o:List Nat}{c:Nat}(h:c∉o):Kz (o++[c]) c=o.length:=by
 obtain⟨k,e',h3,h4⟩:=w0z (o:=o++[c]) (c:=c) (by simp);rw[e'];have hk:=Ep h3;simp at hk;by_cases hl:k<o.length
 ·rw[zH hl]at h3;exact absurd (zJ h3) h
 omega
def j1i{o:List Nat}{c d:Nat}(h:c∈o):Kz (Fk o d) c=Kz o c:=by obtain⟨r,e,_⟩:=H8 o d;rw[e,v0d h]
def J7{o:List Nat}{l:List Mv}{j:Nat}(h:j<l.length):W1 o (l.take (j+1))=Fk (W1 o (l.take j)) l[j].dst.toNat:=by unfold W1;rw[zR h,wJ];rfl
def j0e{o:List Nat}{l:List Mv}{m:Mv}(h:m∈l):m.dst.toNat∈W1 o l:=by
 induction l generalizing o with
 |nil=>cases h
 |cons x l ih=>
  have pre:∀(l:List Mv) (o:List Nat) (c:Nat),c∈o->c∈W1 o l:=by
   intro l;induction l with
   |nil=>intro o c hc;exact hc
   |cons y l ih2=>intro o c hc;refine ih2 (Fk o y.dst.toNat) c ?_;obtain⟨r,e,_⟩:=H8 o y.dst.toNat;rw[e];exact yY _ hc
  rcases yB.1 h with rfl|h
  ·exact pre l _ _ (x0q _ _)
  exact ih h
def F8(o:List Nat)(l:List Mv):∃r,W1 o l=o++r:=by
 induction l generalizing o with
 |nil=>exact⟨[],by simp[W1]⟩
 |cons x l ih=>obtain⟨r,e⟩:=ih (Fk o x.dst.toNat);obtain⟨r',e',_⟩:=H8 o x.dst.toNat;refine⟨r'++r,?_⟩;have:W1 o (x::l)=W1 (Fk o x.dst.toNat) l:=rfl;rw[this,e,e',xO]
def qMv(o:List Nat)(l:List Mv)(n j:Nat):List Mv:=(l.take j).map λm=>⟨n,(Kz (W1 o (l.take j)) m.dst.toNat:Nat),m.on⟩
def u00(o:List Nat)(l:List Mv)(n:Nat):qMv o l n 0=[]:=by simp[qMv]
def z2r(o:List Nat)(l:List Mv)(n j:Nat):(qMv o l n j).length<=l.length:=by unfold qMv;simp;omega
def j18(o:List Nat)(l:List Mv)(n:Nat){j:Nat}(h:j<l.length):
  qMv o l n (j+1)=qMv o l n j++[⟨n,(Kz (Fk (W1 o (l.take j)) l[j].dst.toNat) l[j].dst.toNat:Nat),l[j].on⟩]:=by
 unfold qMv;rw[J7 h,zR h,yR]
 congr 1
 refine xD λm hm=>?_;rw[j1i (j0e hm)]
def u27(a:Aut){o:List Nat}{n:Nat}{c:Nat}(h:o[n]?=some c):qMv o (Yt a c) n (Yt a c).length=mvN a (W1 o (Yt a c)) n:=by
 unfold qMv mvN;rw[zY];obtain⟨r,e⟩:=F8 o (Yt a c);have:(W1 o (Yt a c)).getD n 0=c:=by rw[e,yL,zH (Ep h),h];rfl
 rw[this]
structure QI (a:Aut) (i:Nat) (o:List Nat):Prop where
 nd:o.Nodup
 cl:∀c∈o,L8 a c
 le:i<=o.length
 bfs:Ii a (a.fin.length+1 - i) i o=Ox a
 done:∀(j c:Nat),j<i->o[j]?=some c->∀m∈Yt a c,m.dst.toNat∈o
def QI.zero{a:Aut}(ha:Dfa a):QI a 0 [En a 0]:=
 ⟨by simp,λc hc=>by rw[zP.1 hc];exact S6 ha ha.zero,by simp,rfl,λj c hj=>by omega⟩
def QI.len{a:Aut}(ha:Dfa a){i:Nat}{o:List Nat}(h:QI a i o):o.length<=a.fin.length:=Cn ha h.nd h.cl
def QI.step{a:Aut}(ha:Dfa a){i:Nat}{o:List Nat}(h:QI a i o){c:Nat}(hc:o[i]?=some c):QI a (i+1) (W1 o (Yt a c)):=by
 have hl:=h.len ha;have hi:=Ep hc;obtain⟨⟨r,h1,h2⟩,h3,h4⟩:=Oe (Yt a c) o h.nd;have z1:=h.cl c (zJ hc);refine⟨h3,λd hd=>?_,by rw[h1,zW];omega,?_,λj d hj hd m hm=>?_⟩
 ·rw[h1]at hd;rcases zV.1 hd with hd|hd
  ·exact h.cl d hd
  obtain⟨m,hm,e⟩:=h2 d hd;obtain⟨x,_,e2,_,e4,_⟩:=Ol ha z1 hm;rw[e,e2];simpa using e4
 ·have:=h.bfs;rw[show a.fin.length+1 - i=(a.fin.length+1 - (i+1))+1 by omega,Ii,hc]at this;exact this
 rw[h1,zH (by omega)]at hd;by_cases e:j=i
 ·subst e;rw[hc]at hd;cases hd;exact h4 m hm
 rw[h1];exact yY _ (h.done j d (by omega) hd m hm)
def QI.fin{a:Aut}(ha:Dfa a){i:Nat}{o:List Nat}(h:QI a i o)(hi:i=o.length):o=Ox a:=by have hl:=h.len ha;have:=h.bfs;rw[show a.fin.length+1 - i=(a.fin.length - i)+1 by omega,Ii,y_ (by omega)]at this;exact this
def qM(a:Aut)(i:Nat)(o:List Nat):List Mv:=(yQ i).flatMap (mvN a o)
def x1m(a:Aut)(o:List Nat):qM a 0 o=[]:=by simp[qM]
def u2m{a:Aut}{i:Nat}{o:List Nat}(h:QI a i o){c:Nat}(hc:o[i]?=some c):qM a (i+1) (W1 o (Yt a c))=qM a i o++qMv o (Yt a c) i (Yt a c).length:=by
 rw[u27 a hc];unfold qM;rw[wQ,wV]
 congr 1
 ·rw[uY,uY]
  congr 1
  refine xD λj hj=>?_;have z1:=yU.1 hj;have z6:j<o.length:=wd z1 h.le;obtain⟨r,e⟩:=F8 o (Yt a c);have g1:(W1 o (Yt a c)).getD j 0=o.getD j 0:=by rw[e,yL,yL,zH z6]
  unfold mvN;rw[g1];refine xD λm hm=>?_;have hg:o[j]?=some (o.getD j 0):=by simp[yL,z6]
  rw[e,v0d (h.done j _ z1 hg m hm)]
 simp
def qF(a:Aut)(o:List Nat):List Bool:=o.map λc=>a.fin.getD (Yf a c) false
def k21(a:Aut){o:List Nat}{i:Nat}{c:Nat}(l:List Mv)(h:o[i]?=some c):qF a ((W1 o l).take (i+1))=qF a (o.take i)++[a.fin.getD (Yf a c) false]:=by obtain⟨r,e⟩:=F8 o l;have hi:=Ep h;rw[e,List.take_append_of_le_length (by omega)];obtain⟨_,rfl⟩:=zB.1 h;rw[zR hi];unfold qF;rw[yR,List.map_cons,List.map_nil]
def Ic(o:List Nat):W1 o []=o:=rfl
def j09(o:List Nat)(l:List Mv){n:Nat}(h:l.length<=n):(W1 o l).length<=o.length+n:=by
 have key:∀(l:List Mv) (o:List Nat),(W1 o l).length<=o.length+l.length:=by
  intro l;induction l with
  |nil=>intro o;simp[W1]
  |cons x l ih=>
   intro o;have h1:=ih (Fk o x.dst.toNat);have h2:(Fk o x.dst.toNat).length<=o.length+1:=by unfold Fk;split<;>simp
   have h3:W1 o (x::l)=W1 (Fk o x.dst.toNat) l:=rfl;rw[h3,List.length_cons];omega
 have:=key l o;omega
def g2g(a:Aut):qF a []=[]:=rfl
def w20(a:Aut)(o:List Nat):(qF a o).length=o.length:=by simp[qF]
def j2o{a:Aut}(ha:Dfa a){i:Nat}{o:List Nat}(h:QI a i o):(qM a i o).length<=600000:=by
 have hl:=h.len ha;have hf:=ha.ok.fin;have hm:=ha.ok.mvs;have key:∀j,j<=i->((yQ j).flatMap (mvN a o)).length<=j * 2048:=by
  intro j;induction j with
  |zero=>intro _;simp
  |succ j ih=>
   intro hj;rw[wQ,wV,zW];have h1:=ih (by omega);have h2:(mvN a o j).length<=2048:=by
    have z1:j<o.length:=wd hj h.le;have hc:=h.cl _ (zL z1);have e:o.getD j 0=o[j]:=by simp[yL,z1]
    have h3:=C1 ha hc;have h4:(Wz a (Yf a o[j]:Nat)).length<=a.mv.length:=yW _ _;unfold mvN;rw[yE,e];omega
   simp only[List.flatMap_cons,List.flatMap_nil,yV];omega
 have:=key i (zS _);have:=h.le;unfold qM;omega
def z2y{a:Aut}(ha:Dfa a){i:Nat}{o:List Nat}(h:QI a i o)(hi:i=o.length):Wn a=⟨a.types,qF a (o.take i),qM a i o⟩:=by have:=h.fin ha hi;rw[hi,zY];unfold Wn A5 qF qM;rw[<-this]
section
open Go Go.Proofs
def u15(l:List Nat)(c:Nat):q02 (λm:Int=>m==(c:Int)) (Ud l)=match l.findIdx? λd=>decide (d=c)with|some i=>(i:Int)|none=> -1:=by
 have e:(Ud l).findIdx? (λm:Int=>m==(c:Int))=l.findIdx? λd=>decide (d=c):=by
  rw[tP]
  congr 1
  funext x;simp only[Function.comp];rw[x_];simp;omega
 unfold q02;rw[e];cases l.findIdx? λd=>decide (d=c)<;>rfl
def f1n{l:List Nat}{c:Nat}(h:c∈l):q02 (λm:Int=>m==(c:Int)) (Ud l)=(Kz l c:Nat):=by
 rw[u15];unfold Kz;cases hf:l.findIdx? λd=>decide (d=c)with
 |none=>rw[vT]at hf;have:=hf c h;simp at this
 |some i=>rfl
end
section
open Go Go.Proofs Go.Maps Go.RowKit
def kvO(o:List Nat):List (AV×AV):=o.zipIdx.map λx=>(AV.i (x.1:Nat),AV.i (x.2:Nat))
def mpO(o:List Nat):AObj:= .mp (kvO o)
def z0d{o:List Nat}{j:Nat}{p:AV×AV}(h:(kvO o)[j]?=some p):∃c,o[j]?=some c/\p=(AV.i (c:Nat),AV.i (j:Nat)):=by unfold kvO at h;rw[zU,tx]at h;obtain⟨x,hx,rfl⟩:=zQ.1 h;obtain⟨c,hc,rfl⟩:=zQ.1 hx;exact⟨c,hc,by simp⟩
def f1k(o:List Nat)(c:Nat):kvO (o++[c])=kvO o++[(AV.i (c:Nat),AV.i (o.length:Nat))]:=by unfold kvO;rw[tI,yR];simp
def u2c{o:List Nat}{p:AV×AV}(h:p∈kvO o):∃c∈o,p.1=AV.i (c:Nat):=by obtain⟨j,hj⟩:=yO.1 h;obtain⟨c,hc,rfl⟩:=z0d hj;exact⟨c,zJ hc,rfl⟩
def w1c{o:List Nat}(hb:∀c∈o,c<=1000000):∀p∈kvO o,isKey prog 3 p.1:=λp hp=>by obtain⟨c,hc,e⟩:=u2c hp;rw[e];exact Rb ⟨by omega,by have:=hb c hc;omega⟩
section
variable {nt k:Nat} {S:AS} {ops:Array Oper} {o:Oper} {R:AS->Prop}
def w00 {wr:Bool} (hw:Qn ops S o=some true) (hd:Wx nt o=true) {x ix:Operand} (ho:o.op= .lookup 113 x ix true) {id:Nat} (hx:rho S.sl x=some (.mref id)) {c:Nat} (z6:rho S.sl ix=some (.i (c:Nat))) {l:List Nat} (z7:S.hp[id]?=some (mpO l)) (hn:l.Nodup) (hb:∀c∈l,c<=1000000) (hc:c<=1000000)
  (hR:R (S.putD o.dst (.tup [.i ((if c∈l then Kz l c else 0:Nat)),.bool (decide (c∈l))]))):Q7 prog nt k wr ops o S R:=by
 refine U7 tOk hw hd ho c2q rfl T3 Uw hx z6 z7 (Rb ⟨by omega,by omega⟩) (w1c hb) (z:= .i 0) rfl (λj p hp he=>?_) (λz8=>?_)
 ·obtain⟨c',z1,rfl⟩:=z0d hp;have za:c'=c:=by simp at he;omega
  subst za;have hm:=zJ z1;rw[if_pos hm,y1g hn z1]at hR;simpa[hm]using hR
 have hm:c∉l:=λh=>by
  obtain⟨j,hj⟩:=yO.1 h;have zb:=Ep hj;have:(kvO l)[j]?=some (AV.i (c:Nat),AV.i (j:Nat)):=by unfold kvO;rw[zU,tx,hj];simp
  exact z8 _ (zJ this) rfl
 rw[if_neg hm]at hR;simpa[hm]using hR
def u08 (hw:Qn ops S o=some true) (hd:Wx nt o=true) {x ix y:Operand} (ho:o.op= .mapUpdate 113 x ix y) {id:Nat} (hx:rho S.sl x=some (.mref id)) {c:Nat} (z1:rho S.sl ix=some (.i (c:Nat))) {l:List Nat} (hy:rho S.sl y=some (.i (l.length:Nat))) (z6:S.hp[id]?=some (mpO l)) (hb:∀c∈l,c<=1000000) (hc:c<=1000000) (hn:c∉l)
  (hR:R (({ S with hp:=S.hp.set id (mpO (l++[c])) }:AS).putD o.dst (.tup []))):Q7 prog nt k true ops o S R:=by
 refine Ey tOk hw hd ho c2q rfl Uw hx z1 hy (by simp[AV.pure]) z6 (Rb ⟨by omega,by omega⟩) (w1c hb) (λj p hp he=>?_) (λza=>?_)
 ·obtain⟨c',z7,rfl⟩:=z0d hp;have z8:c'=c:=by simp at he;omega
  subst z8;exact absurd (zJ z7) hn
 have:mpO (l++[c])= .mp (kvO l++[(AV.i (c:Nat),AV.i (l.length:Nat))]):=by unfold mpO;rw[f1k]
 rw[this]at hR;exact hR
def k0t (hw:Qn ops S o=some true) (hd:Wx nt o=true) {x ix y:Operand} (ho:o.op= .insert 113 x ix y) {id:Nat} (hx:rho S.sl x=some (.mref id)) {c:Nat} (z1:rho S.sl ix=some (.i (c:Nat))) (hy:rho S.sl y=some (.i 0)) (z6:S.hp[id]?=some (.mp [])) (hc:c<=1000000)
  (hR:R (({ S with hp:=S.hp.set id (mpO [c]) }:AS).putD o.dst (.tup []))):Q7 prog nt k true ops o S R:=by
 refine Um tOk hw hd ho c2q rfl Uw hx z1 hy (by simp[AV.pure]) z6 (Rb ⟨by omega,by omega⟩) (λp hp=>by cases hp) (λj p hp he=>by cases hp) (λz7=>?_);exact hR
end
end
end Go.Abs
namespace Go.Proofs
open Go.Shelf
def Tryz.sortMv_ren:Go.Shelf.Ren:=⟨λ|6=>180|15=>199|14=>229|28=>244|29=>245|20=>271|21=>272|22=>273|23=>274|24=>275|25=>276|26=>277|27=>278|46=>309|47=>292|48=>293|49=>310|50=>311|57=>323|n=>n,λ|22=>23|24=>73|25=>238|3=>3|39=>189|0=>0|53=>255|55=>258|4=>4|46=>291|45=>290|50=>112|5=>5|9=>9|66=>327|70=>331|76=>349|77=>350|n=>n,λ|n=>n⟩
def Tryz.sortMv:Go.Proofs.SlLaysF0.n6 prog Tryz.sortMv_ren:={
 mixed:=by kernel_rfl
 f6:=⟨Tryz.f180.name,by decide,func180.trans (congrArg some (by kernel_rfl))⟩
 f14:=⟨Tryz.f229.name,by decide,func229.trans (congrArg some (by kernel_rfl))⟩
 f15:=func199.trans (congrArg some (by kernel_rfl))
 f20:=⟨Tryz.f271.name,by decide,func271.trans (congrArg some (by kernel_rfl))⟩
 f21:=⟨Tryz.f272.name,by decide,func272.trans (congrArg some (by kernel_rfl))⟩
 f22:=⟨Tryz.f273.name,by decide,func273.trans (congrArg some (by kernel_rfl))⟩
 f23:=⟨Tryz.f274.name,by decide,func274.trans (congrArg some (by kernel_rfl))⟩
 f24:=⟨Tryz.f275.name,by decide,func275.trans (congrArg some (by kernel_rfl))⟩
 f25:=⟨Tryz.f276.name,by decide,func276.trans (congrArg some (by kernel_rfl))⟩
 f26:=⟨Tryz.f277.name,by decide,func277.trans (congrArg some (by kernel_rfl))⟩
 f27:=⟨Tryz.f278.name,by decide,func278.trans (congrArg some (by kernel_rfl))⟩
 f28:=func244.trans (congrArg some (by kernel_rfl))
 f29:=func245.trans (congrArg some (by kernel_rfl))
 f46:=⟨Tryz.f309.name,by decide,func309.trans (congrArg some (by kernel_rfl))⟩
 f47:=func292.trans (congrArg some (by kernel_rfl))
 f48:=func293.trans (congrArg some (by kernel_rfl))
 f49:=⟨Tryz.f310.name,by decide,func310.trans (congrArg some (by kernel_rfl))⟩
 f50:=⟨Tryz.f311.name,by decide,func311.trans (congrArg some (by kernel_rfl))⟩
 f57:=⟨Tryz.f323.name,by decide,func323.trans (congrArg some (by kernel_rfl))⟩
 t0:=underlying0
 a0:=isAgg0
 z0:=sizeOf0
 v0:=zeroValue0
 t3:=underlying3
 a3:=isAgg3
 z3:=sizeOf3
 v3:=zeroValue3
 t4:=underlying4
 a4:=isAgg4
 z4:=sizeOf4
 v4:=zeroValue4
 t5:=underlying5
 a5:=isAgg5
 z5:=sizeOf5
 v5:=zeroValue5
 t9:=underlying9
 a9:=isAgg9
 z9:=sizeOf9
 v9:=zeroValue9
 t22:=underlying23
 a22:=isAgg23
 z22:=sizeOf23
 v22:=zeroValue23
 t25:=underlying238
 a25:=isAgg238
 z25:=sizeOf238
 v25:=zeroValue238
 t39:=underlying189
 a39:=isAgg189
 z39:=sizeOf189
 v39:=zeroValue189
 t45:=underlying290
 a45:=isAgg290
 z45:=sizeOf290
 v45:=zeroValue290
 t46:=underlying291
 a46:=isAgg291
 z46:=sizeOf291
 v46:=zeroValue291
 t50:=underlying112
 a50:=isAgg112
 z50:=sizeOf112
 v50:=zeroValue112
 t53:=underlying255
 a53:=isAgg255
 z53:=sizeOf255
 v53:=zeroValue255
 t55:=underlying258
 a55:=isAgg258
 z55:=sizeOf258
 v55:=zeroValue258
 t66:=underlying327
 a66:=isAgg327
 z66:=sizeOf327
 v66:=zeroValue327
 t70:=underlying331
 a70:=isAgg331
 z70:=sizeOf331
 v70:=zeroValue331
 t76:=underlying349
 a76:=isAgg349
 z76:=sizeOf349
 v76:=zeroValue349
 t77:=underlying350
 a77:=isAgg350
 z77:=sizeOf350
 v77:=zeroValue350 }
end Go.Proofs
namespace Go.Abs
section
open Go Go.Proofs Go.RowKit Go.Shelf Go.Lib Go.Sort
def ltM(m k:Mv):Bool:=Ma (kyM m) (kyM k)
def c2j(m k:Mv):Int:=if ltM m k=true then -1 else 1
def gdM(T:Nat)(m:Mv):Prop:=PWf T m.on/\Ws m.on=false/\∀s∈m.on,s.length<=1000000000
attribute [local irreducible] Re Qu Qh L5
def y2a(T:Nat)(hT:T<=16)(m k:Mv)(hm:gdM T m)(hk:gdM T k):PC prog 181 [encMv m,encMv k] (λr=>r= .i (c2j m k)):=by
 refine pcB func181 results181 ntmps181 ?_;simp only[Qd];simp only[encMv];have h1:=y01 hm.1;have h2:=y01 hk.1;rw[hm.2.1]at h1;rw[hk.2.1]at h2;have h3:=f2i m.on k.on;have hR:c2j m k=if L5 (Qh m.on) (Qh k.on)=true then -1 else 1:=by rw[h3];rfl
 rw[hR];repeat(refine s_ ?_;simp)
 refine pcL (S8 T m.on m.on hm.1 hm.1 hm.2.2 hm.2.2 (by omega)) ?_;simp;rw[h1];simp[Ku];repeat(refine s_ ?_;simp)
 refine pcL (S8 T k.on k.on hk.1 hk.1 hk.2.2 hk.2.2 (by omega)) ?_;simp;rw[h2];simp[Ku];repeat(refine s_ ?_;simp)
 refine pcL (j0p (Qh m.on) (Qh k.on)) ?_;simp;cases hb:L5 (Qh m.on) (Qh k.on)with
 |true=>refine Qk rfl ?_;repeat ((refine s_ ?_;simp))
 |false=>refine Qk rfl ?_;repeat(refine s_ ?_;simp)
def u1m{w:World}{I:Nat->Prop}{v:Value}{k:IntKind}{n:Int}(h:PVR w I v (.int k n)):v.oneCell'=true:=by cases h;rfl
def j1c{w:World}{I:Nat->Prop}{v:Value}{xs:List AV}(h:PVR w I v (.list xs)):v.oneCell'=true:=by cases h;rfl
def GdE(T:Nat)(w:World)(I:Nat->Prop)(x:List Value×Mv):Prop:=x.1.length=3/\(∀v∈x.1,v.oneCell'=true)/\gdM T x.2/\∀(j:Nat) (y:AV),(encMv x.2).cells[j]?=some y->∃v,x.1[j]?=some v/\PVR w I v y
abbrev MvE (T:Nat) (w:World) (I:Nat->Prop):={ x:List Value×Mv // GdE T w I x }
def f05{T:Nat}{w:World}{I:Nat->Prop}(x:MvE T w I):List Value:=x.1.1
def g2e{T:Nat}{w:World}{I:Nat->Prop}(x y:MvE T w I):Int:=c2j x.1.2 y.1.2
def ltE{T:Nat}{w:World}{I:Nat->Prop}(x y:MvE T w I):ltOf g2e x y=ltM x.1.2 y.1.2:=by unfold ltOf g2e c2j;cases ltM x.1.2 y.1.2<;>rfl
def w3j{T:Nat}{w:World}{I:Nat->Prop}:SWO (ltOf (g2e (T:=T) (w:=w) (I:=I))) where
 irrefl x:=by rw[ltE,<-uX];intro h;exact Ov.irr ((Tp _ _).1 h)
 trans x y z h1 h2:=by rw[ltE]at *;exact(Tp _ _).2 (((Tp _ _).1 h1).trans ((Tp _ _).1 h2))
 ntrans x y z h1 h2:=by
  rw[ltE]at *;rw[<-uX]at *;intro h
  have h3:=(Tp _ _).1 h;have h4:¬Ov (kyM x.1.2).1 (kyM x.1.2).2 (kyM y.1.2).1 (kyM y.1.2).2:=λk=>h1 ((Tp _ _).2 k);have h5:¬Ov (kyM y.1.2).1 (kyM y.1.2).2 (kyM z.1.2).1 (kyM z.1.2).2:=λk=>h2 ((Tp _ _).2 k);unfold Ov at *;omega
def q2c(m:Mv):(encMv m).cells=[.i m.src,.i m.dst,.list (m.on.map encL)]:=rfl
def Hy{T:Nat}{w:World}{I:Nat->Prop}{l:List Mv}{F:Array Value}(hR:RowW w I 3 (l.map encMv) F)(hg:∀m∈l,gdM T m){i:Nat}(hi:i<l.length):GdE T w I ([F[i * 3]!,F[i * 3+1]!,F[i * 3+2]!],l[i]):=by
 have hx:(l.map encMv)[i]?=some (encMv l[i]):=by simp[hi]
 have c0:=hR.cell i _ hx 0 _ rfl;have c1:=hR.cell i _ hx 1 _ rfl;have c2:=hR.cell i _ hx 2 _ rfl;rw[Nat.add_zero]at c0;refine⟨rfl,λv hv=>?_,hg _ (zL hi),λj y hy=>?_⟩
 ·simp only[yB,List.not_mem_nil,or_false]at hv;rcases hv with rfl|rfl|rfl
  ·exact u1m c0
  ·exact u1m c1
  exact j1c c2
 rw[q2c]at hy
 match j,hy with
 |0,hy=>simp at hy;subst hy;exact⟨_,rfl,c0⟩
 |1,hy=>simp at hy;subst hy;exact⟨_,rfl,c1⟩
 |2,hy=>simp at hy;subst hy;exact⟨_,rfl,c2⟩
def c0f(T:Nat)(hT:T<=16)(H:List AObj)(p:Nat)(l:List Mv)(hp:H[p]?=some (.arr 73 3 (l.map encMv)))(hl:l.length<=1000000)(hg:∀m∈l,gdM T m):
  FC prog 180 [.sl p 3 0 l.length,.fn (.func 181) [] []] H
   (λr H'=>r= .tup []/\∃l':List Mv,l'.Perm l/\l'.Pairwise (λx y=>ltM y x=false)/\H'=H.set p (.arr 73 3 (l'.map encMv))):=by
 refine(y0k (xs:=l.map encMv) (Ts func180 rfl rfl) (by simp) hp [.func (.func 181) #[] #[]] (λw I m vs a b=>K4 _ w I m _ vs a b) (λzc=>∃l':List Mv,l'.Perm l/\l'.Pairwise (λx y=>ltM y x=false)/\zc=l'.map encMv) ?_ ?_).mono ?_
 ·intro w I b cap F hE hI zg hR hH hb hc;have zh:F.size=l.length * 3:=by have:=hR.size;simpa using this
  by_cases z6:l=[]
  ·subst z6;refine Calls.mono (AnyF.slices_SortFunc_none Tryz.sortMv (some ⟨b,0,none⟩) cap _ w) ?_;rintro e w' ⟨rfl,rfl⟩;refine⟨rfl,[],F,0,#[],⟨[],.refl _,.nil,rfl⟩,rfl,hR,?_⟩;rw[grow_empty];exact(putRow_self id w' b 0 F hH).symm
  have z8:0<l.length:=uI.2 z6;have eg:∀args w,(callFunc 181 args).run prog w= .ok (.enter 181 args) w:=enters_of func181 (by kernel_rfl) rfl;let _:Inhabited (MvE T w I):=⟨⟨_,Hy hR hg z8⟩⟩
  obtain⟨dl,za⟩:∃dl:List (MvE T w I),dl=List.ofFn λi:Fin l.length=>(⟨_,Hy hR hg i.2⟩:MvE T w I):=⟨_,rfl⟩
  have z7:dl.length=l.length:=by rw[za];simp
  have zd:∀i (h:i<l.length),dl[i]?=some ⟨_,Hy hR hg h⟩:=λi h=>by rw[za];simp[h]
  have zi:dl.map (λx=>x.1.2)=l:=by
   refine xL λi=>?_;rw[zU];by_cases h:i<l.length
   ·rw[zd i h,zI h];rfl
   rw[y_ (by omega),y_ (by omega)];rfl
  clear za;have zj:flatK f05 3 dl.toArray=F:=by
   refine ext_get! (by simp[z7,zh]) λt ht=>?_;have zk:t<dl.length * 3:=by simpa using ht
   rw[get_flatK _ _ _ _ (by simpa using zk)];have hi:t / 3<l.length:=by omega
   have e1:dl.toArray[t / 3]! =⟨_,Hy hR hg hi⟩:=by rw[getElem!_pos dl.toArray _ (by simp;omega)];have:=zd _ hi;obtain⟨h1,h2⟩:=zB.1 this;simpa using h2
   rw[e1];simp only[f05];have hm:t % 3=0\/t % 3=1\/t % 3=2:=by omega
   rcases hm with h|h|h<;>rw[h]
   ·have:t / 3 * 3=t:=by omega
    simp[this]
   ·have:t / 3 * 3+1=t:=by omega
    simp[this]
   have:t / 3 * 3+2=t:=by omega
   simp[this]
  have zl:HoldsK f05 3 w b 0 dl.toArray:=by unfold HoldsK;rw[zj];exact hH
  have zb:CmpLays prog 181 #[] f05 3 (g2e (T:=T) (w:=w) (I:=I)) b 0 dl.toArray.size w:=λq os dk hs x y=>by
   have hW:∀c,I c->(sortWorldK f05 3 w b 0 q dk os).heap[c]? =w.heap[c]? :=λc ze=>by have zm:=hI c ze;have zn:b≠c:=λe=>zg (e▸ze);simp only[sortWorldK,grow,putRowK,putRow,mapBlock,Sort.ahead];rw[Array.getElem?_append_left (by simpa using zm),Array.getElem?_modify,if_neg zn]
   have zf:∀z:MvE T w I,PVR w I (.agg (f05 z).toArray) (encMv z.1.2):=λz=>by
    refine .agg _ _ (by simp[f05,z.2.1]) λi v x' hv z1=>?_;obtain⟨v',h1,h2⟩:=z.2.2.2.2 i x' z1;have:v=v':=by simp only[f05,List.getElem?_toArray]at hv;rw[hv]at h1;exact Option.some.inj h1
    rw[this];exact h2
   refine(y2a T hT x.1.2 y.1.2 x.2.2.2.1 y.2.2.2.1).laid hE hI hW (by simp) λi v x' hv z1=>?_
   match i,hv,z1 with
   |0,hv,z1=>simp at hv z1;subst hv z1;exact zf x
   |1,hv,z1=>simp at hv z1;subst hv z1;exact zf y
  have:=AnyQ.slices_SortFunc Tryz.sortMv 3 isAgg73 sizeOf73 f05 (λx=>x.2.1) (λx v hv=>x.2.2.1 v hv) g2e w3j 181 #[] b 0 cap dl.toArray w eg zb zl hb (by simp;omega);rw[show(dl.toArray).size=l.length by simp[z7]]at this;refine Calls.mono this ?_;rintro e w' ⟨rfl,d',n,os,h1,h2,rfl⟩;obtain⟨s1,_,s3⟩:=h1;have hs:d'.toList.length=l.length:=by simpa[z7]using s1
  refine⟨rfl,(d'.toList.map (λx=>x.1.2)).map encMv,flatK f05 3 d',n,os,⟨d'.toList.map (λx=>x.1.2),?_,?_,rfl⟩,by simp[hs],⟨by simp,λx hx=>?_,λi x hx j y hy=>?_⟩,rfl⟩
  ·rw[show d'.extract 0 l.length=d' by simp[<-hs],show dl.toArray.extract 0 l.length=dl.toArray by simp[<-z7]]at s3;have:=(s3:d'.toList.Perm dl).map (λx=>x.1.2)
   rwa [zi]at this
  ·refine xK.2 (yK.2 λi j hi hj zo=>?_);have:=h2 i j (xA _) zo (by omega);rw[ltE,getElem!_pos d' i (by simpa using hi),getElem!_pos d' j (by simpa using hj)]at this;simpa using this
  ·obtain⟨z,_,rfl⟩:=zO.1 hx;rfl
  rw[zU,zU]at hx;obtain⟨z0,zp,rfl⟩:=zQ.1 hx;obtain⟨z,hz,rfl⟩:=zQ.1 zp;obtain⟨hi,rfl⟩:=zB.1 hz;have hj:j<3:=(zB.1 hy).1;have zq:i<d'.size:=by simpa using hi
  rw[get_flatK _ _ _ _ (by omega)];rw[show(i * 3+j) / 3=i by omega,show(i * 3+j) % 3=j by omega];rw[getElem!_pos d' i zq];obtain⟨v,h1,h2⟩:=d'[i].2.2.2.2 j y (by simpa using hy);have:(f05 d'[i])[j]! =v:=by unfold f05;rw[List.getElem!_eq_getElem?_getD,h1];rfl
  rw[this];exact h2
 ·rintro h;have z6:l=[]:=by
   cases l with
   |nil=>rfl
   |cons x r=>simp at h
  subst z6;exact⟨⟨[],.refl _,.nil,rfl⟩,λw=>AnyF.slices_SortFunc_none Tryz.sortMv none 0 _ w⟩
 rintro r H' ⟨rfl,zc,⟨l',h1,h2,rfl⟩,rfl⟩;exact⟨rfl,l',h1,h2,rfl⟩
end
def d2l{T B:Nat}{l:List Prd}(h:∀i,(Qq l i).length<=B):∀s∈Oh T l,s.length<=B:=λs hs=>by unfold Oh at hs;obtain⟨i,_,rfl⟩:=zO.1 hs;exact yP (q2n _) (h i)
end Go.Abs
