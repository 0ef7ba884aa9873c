/- Part Wl of the proof: steps on the way to the last part. No condition. -/
import Derived.Test.YtjmkolhkojgjpaaGreatDoorWk
import Derived.Test.YtjmkolhkojgjpaaGreatDoorWf
import Derived.Test.YtjmkolhkojgjpaaGreatDoorWg
import Derived.Test.YtjmkolhkojgjpaaGreatDoorWh
import Derived.Test.YtjmkolhkojgjpaaGreatDoorWj
import Derived.Test.YtjmkolhkojgjpaaGreatDoorWb
import Derived.Test.YtjmkolhkojgjpaaGreatDoorWc
import Derived.Lay
import Derived.LaidSub
import Derived.Deep.DeepWitnessRowRef
import Derived.Test.YtjmkolhkojgjpaaGreatDoorCards
import Derived.Test.YtjmkolhkojgjpaaGreatDoorTie
import Derived.Lib.LaidTab
import Derived.Test.YtjmkolhkojgjpaaGreatDoorWe
import Derived.Test.YtjmkolhkojgjpaaGreatDoorWd
import Derived.Shelf.Vars
set_option linter.all false
open List renaming getD->yL,length_map->yE,length_filter_le->yW,mem_map->zO,mem_filter->xH,getElem?_eq_getElem->zI,getElem_mem->zL,length_take->xR,getElem_eq_iff->zZ,getElem?_append_right->zF,getElem?_set_ne->zE,map_append->yR,getElem?_append_left->zH,take_length->zY,append_nil->yV,take_of_length_le->zT,append_assoc->xO,length_append->zW,map_cons->xJ,map_nil->wG,getElem?_set_self->zK,take_zero->wB,mem_singleton->zP,mem_append->zV,any_eq_false->vw
open Nat renaming le_trans->yP,zero_le->xA
open Prod renaming ext->u6
open Bool renaming and_eq_true->z_
set_option maxHeartbeats 16000000
set_option linter.unusedSimpArgs false
set_option maxRecDepth 100000
open Go.Proofs.Tryz
namespace Go.Abs
section
open Go Go.Proofs Go.Maps Go.RowKit
def u0s{l:List Nat}{i:Nat}(h:i<l.length):l.getD i 0=l[i]:=by simp[yL,h]
attribute [local irreducible] Wz Re Ot Oh j1j Bz Zw kvG
def Xu{α:Type}:∀(l:List α) (i:Nat) (x:α),l[i]?=some x->l.Perm (x::l.eraseIdx i)
 |[],i,x,h=>by simp at h
 |y::l,0,x,h=>by simp at h;subst h;simp
 |y::l,i+1,x,h=>by simp only[List.getElem?_cons_succ]at h;exact((Xu l i x h).cons y).trans (List.Perm.swap x y _)
def u0i{a:Aut}(ha:OkA a)(cl:List Nat)(s:Int)(t:Nat):(Aw a cl s t).length<=2048:=by unfold Aw;rw[yE];exact yP (yW _ _) (yP (Hp a s) ha.mvs)
def k1t(ks:List Nat)(t:Nat):(L3 ks t).length<=ks.length+1:=by
 unfold L3;split
 ·omega
 simp
def w27(cl:List Nat):∀(l:List Mv) (ks:List Nat),(l.foldl (λks m=>L3 ks (clD cl m)) ks).length<=ks.length+l.length
 |[],ks=>by simp
 |m::l,ks=>by have h1:=w27 cl l (L3 ks (clD cl m));have h2:=k1t ks (clD cl m);simp only[List.foldl_cons,List.length_cons];omega
def Nw{a:Aut}(ha:OkA a)(cl:List Nat)(s:Int)(t i:Nat):(Qq (Aw a cl s t) i).length<=1000000:=by
 have h1:∀p∈Aw a cl s t,PCk a.types.toNat p:=λp hp=>by obtain⟨m,hm,rfl⟩:=zO.1 hp;exact(ha.mv m (R7.1 (xH.1 hm).1).1).on
 have h2:=u0i ha cl s t;have:=P3 h1 i;omega
def w1q{x y:Mv}(h:ltM y x=false)(z1:kyM x≠kyM y):ltG kyM x y:=by
 unfold ltG;have h1:¬Ov (kyM y).1 (kyM y).2 (kyM x).1 (kyM x).2:=λk=>by have:ltM y x=true:=(Tp _ _).2 k;rw[h]at this;cases this
 have h2:¬((kyM x).1=(kyM y).1/\(kyM x).2=(kyM y).2):=λk=>z1 (u6 k.1 k.2);unfold Ov at *;omega
def z1s(a:Aut)(ha:Dfa a)(cl:List Nat)(x6:cl.length=a.fin.length)(y3:∀c∈cl,c<=1000000)(s:Int)(hs:inS a s):PC prog 119 [Yo a,LI (Ud cl),.i s] (λr=>r= .list ((j1j a cl s).map encMv)):=by
 refine pcB func119 results119 ntmps119 ?_;simp only[Qd];simp only[Yo,Ww];have yi:=ha.ok.fin;have x7:=Hp a s;have x8:=ha.ok.mvs;have y4:=λm (hm:m∈Wz a s)=>ha.ok.mv m (R7.1 hm).1;have zo:=V0 hs;have x9:=A3 hs;have yj:=hs.1;have yk:=hs.2;have yl:(Ot a).length=a.fin.length:=by unfold Ot;simp
 simp only[Uf]at zo;have zu:∀hh,(Ot a)[s.toNat]'hh= .list ((Wz a s).map encMv):=λhh=>by rw[zI hh]at zo;exact Option.some.inj zo
 repeat(refine s_ ?_;simp)
 refine Ea rfl rfl rfl ?_;simp;repeat(refine s_ ?_;simp[zo,zu,yj,yk,yl])
 refine g1g 1 rfl ?_;simp;obtain⟨K,hK⟩:∃K,K=[AObj.vars [.i a.types,.list (a.fin.map .bool),.list (a.mv.map encMv),.list (Ot a)]]:=⟨_,rfl⟩
 have ym:K[0]?=some (.vars [.i a.types,.list (a.fin.map .bool),.list (a.mv.map encMv),.list (Ot a)]):=by rw[hK];rfl
 refine Q3 λZ hZ=>?_;have zG:MG K 1 (Zw a cl s 0) (Bz a cl s 0) (λ_=>0) Z:=by rw[d0d];refine⟨by rw[hZ];unfold kvG;rfl,by simp,by simp,by simp,by rw[hK];simp,by simp,λj hj=>?_⟩;rw[hK]at hj;simp at hj;subst hj;rw[hZ,hK];rfl
 clear hZ;refine lpV (F:=λ(u:Nat×(Nat->Nat)×List AObj)=>⟨[(1,LI (Ud cl)),(3,.vptr 0 0),(6,.nils),(7,.mref 1),(18,.list ((Wz a s).map encMv)),(19,.i (Wz a s).length),(20,.i u.1)],u.2.2⟩)
  (λu=>u.1<=(Wz a s).length/\MG K 1 (Zw a cl s u.1) (Bz a cl s u.1) u.2.1 u.2.2) (λu=>(Wz a s).length - u.1) ?_ (0,λ_=>0,Z) ⟨xA _,zG⟩
 clear zG;clear Z;rintro⟨j,L,G⟩ ⟨hj,gG⟩ ih;simp only at hj gG ih |-;have za:=x2d a cl s j;have zp:∀t∈Zw a cl s j,t<=1000000:=λt ht=>by
  obtain⟨m,hm,rfl⟩:=Bl.1 ht;unfold clD;have:=List.mem_of_mem_take hm;by_cases h:m.dst.toNat<cl.length
  ·rw[u0s h];exact y3 _ (zL h)
  simp[yL,h]
 have yn:=λt (h:t∉Zw a cl s j)=>k1r h;repeat(refine s_ ?_;simp)
 refine Qa rfl (λzv=>?_) (λyo=>?_)
 ·have z7:j<(Wz a s).length:=by simpa using zv
  have hw:=wz j (by omega);have zh:=z1t a cl s z7;have zq:=w1m a cl s z7;have y5:=y4 _ (zL z7);have y6:∀t,(Bz a cl s j t).length<=j:=λt=>by unfold Bz;rw[yE];refine yP (yW _ _) ?_;rw[xR];omega
  have zf:=λL' G'=>ih (j+1,L',G');simp only[zh,zq]at zf;clear zh zq;have y7:((Wz a s).map encMv)[j]?=some (encMv (Wz a s)[j]):=by simp[z7]
  have y8:∀hh,((Wz a s).map encMv)[j]'hh=encMv (Wz a s)[j]:=λhh=>by simp
  generalize (Wz a s)[j]=m at *;generalize Zw a cl s j=ks at *;generalize Bz a cl s j=gs at *;simp only[encMv]at y7 y8
  repeat(refine s_ ?_;simp[y7,y8,z7])
  obtain⟨d,hd⟩:∃d:Nat,m.dst=d:=⟨m.dst.toNat,by have:=y5.dst.1;omega⟩
  have z8:d<cl.length:=by have:=y5.dst.2;omega
  have zw:clD cl m=cl[d]:=by unfold clD;rw[hd];exact u0s z8
  have zr:clD cl m<=1000000:=by rw[zw];exact y3 _ (zL z8)
  have yp:(Ud cl)[d]?=some ((clD cl m:Nat):Int):=by rw[zw];simp[z8]
  have yq:∀hh,(Ud cl)[d]'hh=((clD cl m:Nat):Int):=λhh=>(zZ hh).2 yp;rw[hd]at *;refine Q3 λY hY=>?_
  have yG:MG K 1 ks gs L Y:=by rw[hY];exact gG.grow _
  have yx:Y[G.length]?=some (.vars [.i m.src,.i d,.list (m.on.map encL)]):=by rw[hY,zF (by simp)];simp
  clear hY gG;generalize G.length=x at *;clear G
  have xa:=y6 (clD cl m);have zx:=yn (clD cl m);have yM:=yG.map;have zi:=λnp H'=>yG.put (t:=clD cl m) (p:=m.on) (np:=np) (H':=H');have yr:=yG.leaf (clD cl m);have zy:=yG.ne (clD cl m);generalize clD cl m=t at *
  have zb:cl[d]=t:=zw.symm;have zc:∀E,(Y++E)[x]?=some (.vars [.i m.src,.i d,.list (m.on.map encL)]):=λE=>Qb yx E;have zd:∀E hh,(Y++E)[x]'hh= .vars [.i m.src,.i d,.list (m.on.map encL)]:=λE hh=>(zZ hh).2 (zc E);by_cases htk:t∈ks
  ·have ze:=yr htk;have y9:=zy htk;have yt:L t≠x:=λe=>by rw[e,yx]at ze;simp at ze
   have ya:=Qe ze;have z6:((gs t).map encP).length=(gs t).length:=by simp
   generalize yu:(gs t).map encP=ge at *
   have zt:∀E,(Y.set (L t) .dead++E)[x]?=some (.vars [.i m.src,.i d,.list (m.on.map encL)]):=λE=>Qb (Qc yt yx _) E;have zz:∀E hh,(Y.set (L t) .dead++E)[x]'hh= .vars [.i m.src,.i d,.list (m.on.map encL)]:=λE hh=>(zZ hh).2 (zt E);refine Y0 (P:=prog) tOk mixed [16,17] (.val 0 (.val 1 (.val 2 (.val 6 (.val 7 (.val 8 (.val 9 (.val 10 (.val 11 (.val 13 (.val 14 (.three 3 (.val 4 (.three 5 (.two 12 (.one 15 (.one 16 (.one 17 (.done)))) 15 (.one 12 (.one 16 (.one 17 (.done))))) 12 (.two 5 (.one 15 (.one 16 (.one 17 (.done)))) 15 (.two 5 (.one 16 (.one 17 (.done))) 16 (.val 5 (.one 17 (.done))))) 15 (.two 5 (.one 12 (.one 16 (.one 17 (.done)))) 12 (.two 5 (.one 16 (.one 17 (.done))) 16 (.val 5 (.one 17 (.done))))))) 12 (.two 3 (.val 4 (.two 5 (.one 15 (.one 16 (.one 17 (.done)))) 15 (.two 5 (.one 16 (.one 17 (.done))) 16 (.val 5 (.one 17 (.done)))))) 15 (.two 3 (.val 4 (.two 5 (.one 16 (.one 17 (.done))) 16 (.val 5 (.one 17 (.done))))) 16 (.val 3 (.val 4 (.val 5 (.one 17 (.done))))))) 15 (.two 3 (.val 4 (.two 5 (.one 12 (.one 16 (.one 17 (.done)))) 12 (.two 5 (.one 16 (.one 17 (.done))) 16 (.val 5 (.one 17 (.done)))))) 12 (.two 3 (.val 4 (.two 5 (.one 16 (.one 17 (.done))) 16 (.val 5 (.one 17 (.done))))) 16 (.val 3 (.val 4 (.val 5 (.one 17 (.done))))))))))))))))))) (λS'=>∃np,MG K 1 (L3 ks t) (λu=>if u=t then gs t++[m.on]else gs u) (λu=>if u=t then np else L u) S'.hp/\look S'.sl 1=some (LI (Ud cl))/\look S'.sl 3=some (.vptr 0 0)/\look S'.sl 6=some .nils/\look S'.sl 7=some (.mref 1)/\look S'.sl 18=some (.list ((Wz a s).map encMv))/\look S'.sl 19=some (.i (Wz a s).length)/\look S'.sl 20=some (.i j)) rfl (by kernel_rfl) ?_ ?_
   ·simp[yx,zc,zd,zb,z8]
    repeat' (first
     |refine And.intro ?_ ?_
     |(refine Lp rfl rfl rfl rfl rfl (by first|exact yM|exact Qb yM _) zp zr ?_;rw[if_pos htk];simp[yx,zc,zd,zb,z8])
     |(refine apS T87 T70 ?_;simp[Qb ze,Qg ze,z6,yx,zc,zd,zt,zz,zb,z8];refine⟨by simp[Wo,z6]<;>omega,?_⟩;simp[zt,zz,zb,z8])
     |(refine apS T87 T70 ?_;simp[Qb ze,Qg ze,z6,yx,zc,zd,zt,zz,zb,z8];refine⟨by simp[Wo,z6]<;>omega,?_⟩))
    all_goals
     refine Xc rfl rfl rfl rfl rfl (np:=Y.length+1) (n:=(gs t).length+1) rfl (ks:=ks) (gs:=gs) (L:=L) (Qb (Qc y9 yM _) _) zp zr za zx m.on rfl ?_;simp;refine⟨Y.length+1,zi (Y.length+1) _ (by omega) (Qf (Qb (Qc y9 yM _) _) _) ?_ ?_⟩
     ·rw[zE (by have:=Qe yM;omega),zF (by simp),yR,yu];simp
     intro jj h1 h2 h3;rw[zE (Ne.symm h2),zH (by simpa using h1),zE (λe=>h3 htk e.symm)]
   rintro⟨sl,E⟩ ⟨np,hE,s1,s3,s6,s7,s18,s19,s20⟩;simp only at hE s1 s3 s6 s7 s18 s19 s20;simp;refine Ru (sl':=[(1,LI (Ud cl)),(3,.vptr 0 0),(6,.nils),(7,.mref 1),(18,.list ((Wz a s).map encMv)),(19,.i (Wz a s).length),(20,.i j)]) ?_ (by simp[s1,s3,s6,s7,s18,s19,s20]);repeat(refine s_ ?_;simp[hw])
   exact lkB (zf _ E ⟨by omega,hE⟩ (by omega))
  have yb:=zx htk;have z6:(gs t).length=0:=by rw[yb];rfl
  refine Y0 (P:=prog) tOk mixed [16,17] (.val 0 (.val 1 (.val 2 (.val 6 (.val 7 (.val 8 (.val 9 (.val 10 (.val 11 (.val 13 (.val 14 (.three 3 (.val 4 (.three 5 (.two 12 (.one 15 (.one 16 (.one 17 (.done)))) 15 (.one 12 (.one 16 (.one 17 (.done))))) 12 (.two 5 (.one 15 (.one 16 (.one 17 (.done)))) 15 (.two 5 (.one 16 (.one 17 (.done))) 16 (.val 5 (.one 17 (.done))))) 15 (.two 5 (.one 12 (.one 16 (.one 17 (.done)))) 12 (.two 5 (.one 16 (.one 17 (.done))) 16 (.val 5 (.one 17 (.done))))))) 12 (.two 3 (.val 4 (.two 5 (.one 15 (.one 16 (.one 17 (.done)))) 15 (.two 5 (.one 16 (.one 17 (.done))) 16 (.val 5 (.one 17 (.done)))))) 15 (.two 3 (.val 4 (.two 5 (.one 16 (.one 17 (.done))) 16 (.val 5 (.one 17 (.done))))) 16 (.val 3 (.val 4 (.val 5 (.one 17 (.done))))))) 15 (.two 3 (.val 4 (.two 5 (.one 12 (.one 16 (.one 17 (.done)))) 12 (.two 5 (.one 16 (.one 17 (.done))) 16 (.val 5 (.one 17 (.done)))))) 12 (.two 3 (.val 4 (.two 5 (.one 16 (.one 17 (.done))) 16 (.val 5 (.one 17 (.done))))) 16 (.val 3 (.val 4 (.val 5 (.one 17 (.done))))))))))))))))))) (λS'=>∃np,MG K 1 (L3 ks t) (λu=>if u=t then gs t++[m.on]else gs u) (λu=>if u=t then np else L u) S'.hp/\look S'.sl 1=some (LI (Ud cl))/\look S'.sl 3=some (.vptr 0 0)/\look S'.sl 6=some .nils/\look S'.sl 7=some (.mref 1)/\look S'.sl 18=some (.list ((Wz a s).map encMv))/\look S'.sl 19=some (.i (Wz a s).length)/\look S'.sl 20=some (.i j)) rfl (by kernel_rfl) ?_ ?_
  ·simp[yx,zc,zd,zb,z8]
   repeat' (first
    |refine And.intro ?_ ?_
    |(refine Lp rfl rfl rfl rfl rfl (by first|exact yM|exact Qb yM _) zp zr ?_;rw[if_neg htk];simp[yx,zc,zd,zb,z8])
    |(refine apS T87 T70 ?_;simp[yx,zc,zd,zb,z8];refine⟨by simp[Wo]<;>omega,?_⟩))
   all_goals
    refine Xc rfl rfl rfl rfl rfl (np:=Y.length+1) (n:=1) rfl (ks:=ks) (gs:=gs) (L:=L) (Qb yM _) zp zr za zx m.on (by rw[z6]) ?_;simp;refine⟨Y.length+1,zi (Y.length+1) _ (by omega) (Qf (Qb yM _) _) ?_ ?_⟩
    ·rw[zE (by have:=Qe yM;omega),zF (by simp),yR,yb];simp
    intro jj h1 h2 h3;rw[zE (Ne.symm h2),zH h1]
  rintro⟨sl,E⟩ ⟨np,hE,s1,s3,s6,s7,s18,s19,s20⟩;simp only at hE s1 s3 s6 s7 s18 s19 s20;simp;refine Ru (sl':=[(1,LI (Ud cl)),(3,.vptr 0 0),(6,.nils),(7,.mref 1),(18,.list ((Wz a s).map encMv)),(19,.i (Wz a s).length),(20,.i j)]) ?_ (by simp[s1,s3,s6,s7,s18,s19,s20]);repeat(refine s_ ?_;simp[hw])
  exact lkB (zf _ E ⟨by omega,hE⟩ (by omega))
 have y0:j=(Wz a s).length:=by simp at yo;omega
 subst y0;have y6:∀t,(Bz a cl s (Wz a s).length t).length<=2048:=λt=>by unfold Bz;rw[yE];refine yP (yW _ _) ?_;rw[xR];omega
 refine kpA [(3,.vptr 0 0),(6,.nils),(7,.mref 1)] ?_;refine MG.freeze za gG.inj gG.ne (λt ht=>by simp[AV.fz]) (Zw a cl s (Wz a s).length).length 0 G (by omega) (by rw[g1i];exact gG.map) (λi t _ ht=>gG.leaf t (List.mem_of_getElem? ht)) λH' y1 yc yd=>?_;have g0:H'[0]?=some (.vars [.i a.types,.list (a.fin.map .bool),.list (a.mv.map encMv),.list (Ot a)]):=by rw[yd 0 (by have:=Qe gG.map;omega) (by decide) (λt ht e=>by have:=gG.geL t ht;rw[hK]at this;simp at this;omega),gG.keep 0 (by rw[hK];simp)];exact ym
 rw[y2s]at y1;clear yd gG ih;refine j1f 1 y1 (by simp[AV.pure]) ?_;have z1:=Qf y1 (.mp ((Zw a cl s (Wz a s).length).map λt:Nat=>(AV.i t,AV.list ((Bz a cl s (Wz a s).length t).map encP))));have z0:=Qc (j:=1) (by decide) g0 (.mp ((Zw a cl s (Wz a s).length).map λt:Nat=>(AV.i t,AV.list ((Bz a cl s (Wz a s).length t).map encP))));generalize H'.set 1 _=Z at *
 repeat(refine s_ ?_;simp)
 refine Sg tOk rfl rfl rfl c2c rfl rfl z1 ?_;simp;repeat(refine s_ ?_;simp)
 have zq:Bz a cl s (Wz a s).length=Aw a cl s:=funext λt=>q2a a cl s t;rw[zq]at *;generalize zh:Zw a cl s (Wz a s).length=ks at *;refine kpA [(3,.vptr 0 0),(6,.nils),(10,.nils),(43,.vptr Z.length 0)] ?_;refine Qw 10 73 3 rfl ?_
 simp;have xb:=Qe z1;refine Q3 λE hE=>?_;have e0:E[0]?=some (.vars [.i a.types,.list (a.fin.map .bool),.list (a.mv.map encMv),.list (Ot a)]):=by rw[hE];exact Qb (Qc (j:=1) (by decide) z0 _) _
 have ei:E[Z.length]?=some (.it (ks.map λt:Nat=>(.i t,.list ((Aw a cl s t).map encP))) none):=by rw[hE,zF (by simp)];simp
 have eq:E[Z.length+1]?=some (.arr 73 3 []):=by rw[hE,zF (by simp)];simp
 clear hE;generalize Z.length=I at *;clear z0 z1;clear Z
 have hT:=ha.ok.types;have yv:((a.types.toNat:Nat):Int)=a.types:=by omega
 have ye:∀t,∀p∈Aw a cl s t,PWf a.types.toNat p:=λt p hp=>by obtain⟨m,hm,rfl⟩:=zO.1 hp;exact(z00 ha.ok (xH.1 hm).1).1
 have yf:∀t,(Aw a cl s t).length<=1000000:=λt=>yP (u0i ha.ok cl s t) (by decide);have hU:∀t,PC prog 139 [.i a.types,LP (Aw a cl s t)] (λr=>r=encP (Oh a.types.toNat (Aw a cl s t))):=λt=>by
  have:=y10 a.types.toNat (Aw a cl s t) (by omega) (ye t) (λi _=>Nw ha.ok cl s t i) (yf t)
  rwa [yv]at this
 have yw:ks.length<=2048:=by rw[<-zh];unfold Zw;rw[zY];have:=w27 cl (Wz a s) [];simp only[List.length_nil]at this;omega
 have yy:∀t,∀r∈Oh a.types.toNat (Aw a cl s t),r.length<=1000000000:=λt r hr=>by have:=d2l (λi=>Nw ha.ok cl s t i) r hr;omega
 clear ye yf;refine lpV (F:=λ(u:List Nat×Option (AV×AV)×List Nat×Nat×List AObj)=>⟨[(3,.vptr 0 0),(6,.nils),(10,.sl u.2.2.2.1 3 0 u.2.2.1.length),(43,.vptr I 0)],u.2.2.2.2⟩)
  (λu=>I<u.2.2.2.1/\(u.2.2.1++u.1).Perm ks/\u.2.2.2.2[0]?=some (.vars [.i a.types,.list (a.fin.map .bool),.list (a.mv.map encMv),.list (Ot a)])/\u.2.2.2.2[I]?=some (.it (u.1.map λt:Nat=>(.i t,.list ((Aw a cl s t).map encP))) u.2.1)/\u.2.2.2.2[u.2.2.2.1]?=some (.arr 73 3 (u.2.2.1.map λt:Nat=>encMv ⟨0,t,Oh a.types.toNat (Aw a cl s t)⟩))) (λu=>u.1.length) ?_ (ks,none,[],I+1,E) ⟨by simp only;omega,by simp,e0,ei,eq⟩
 clear e0 ei eq;clear E;rintro⟨left,cur,ds,q,E⟩ ⟨yz,zg,e0,ei,eq⟩ ih;simp only at yz zg e0 ei eq ih |-;repeat(refine s_ ?_;simp)
 refine Aj rfl rfl rfl rfl ei (λx0=>?_) (λi p hp=>?_)
 ·simp;have x1:left=[]:=by simpa using x0
  subst x1;rw[yV]at zg;have xc:ds.length<=2048:=by rw[zg.length_eq];exact yw
  repeat(refine s_ ?_;simp)
  refine Qk rfl ?_;simp;repeat(refine s_ ?_;simp)
  have x2:(ds.map λt:Nat=>encMv ⟨0,t,Oh a.types.toNat (Aw a cl s t)⟩)=(ds.map λt:Nat=>(⟨0,(t:Int),Oh a.types.toNat (Aw a cl s t)⟩:Mv)).map encMv:=by rw[List.map_map];rfl
  rw[x2]at eq;have zj:=q1a ha cl s (ks:=ds) (zg.symm.nodup za) (λt=>by
   rw[zg.mem_iff,<-zh,Bl,zY])
  have yg:∀m∈(ds.map λt:Nat=>(⟨0,(t:Int),Oh a.types.toNat (Aw a cl s t)⟩:Mv)),gdM a.types.toNat m:=λm hm=>by refine⟨zj.wf m hm,(Ub (zj.wf m hm)).2 (zj.ne m hm),λt ht=>?_⟩;obtain⟨u,_,rfl⟩:=zO.1 hm;exact yy u t ht
  obtain⟨L,hL⟩:∃L,L=(ds.map λt:Nat=>(⟨0,(t:Int),Oh a.types.toNat (Aw a cl s t)⟩:Mv)):=⟨_,rfl⟩
  have x3:ds.length=L.length:=by rw[hL];simp
  rw[<-hL]at eq zj yg;have x4:L.length<=1000000:=by omega
  rw[x3];refine Qm rfl rfl (c0f a.types.toNat (by omega) E q L eq x4 yg) rfl ?_;rintro r H' ⟨rfl,l',h1,h2,rfl⟩;simp;have yh:=Yc ha cl hs;have zk:=zj.perm h1.symm;have zv:l'.Pairwise (ltG kyM):=by have x5:=zk.apart λt t' ty y=>B9 ha hs;refine(h2.and x5).imp λ{x y} h=>?_;obtain⟨e1,e2⟩:=h;exact w1q e1 e2
  have zl:l'=j1j a cl s:=zk.uniq yh.1 zv yh.2;have ya:=h1.length_eq;rw[<-ya];refine kpA [(6,.nils),(10,.sl q 3 0 l'.length)] ?_;refine W3 q (Qf eq _) ?_;simp[AV.fz];rw[zT (by simp),zl];repeat(refine s_ ?_;simp)
 simp;rw[List.getElem?_map]at hp;obtain⟨t,ht,rfl⟩:=Option.map_eq_some_iff.1 hp;rw[Df];have zm:(ds++[t]++left.eraseIdx i).Perm ks:=by refine List.Perm.trans ?_ zg;rw[xO];exact List.Perm.append_left ds (Xu left i t ht).symm
 have xd:(left.eraseIdx i).length<left.length:=by rw[List.length_eraseIdx,if_pos (Ep ht)];have:=Ep ht;omega
 have xe:ds.length+1<=2048:=by have:=zm.length_eq;simp at this;omega
 have xf:=Qe ei;have zf:=λy2 q' E'=>ih (left.eraseIdx i,y2,ds++[t],q',E');simp only[zW,List.length_singleton,yR,xJ,wG]at zf;generalize left.eraseIdx i=left' at *
 have k0:=Qc (j:=I) (by intro e;rw[e,e0]at ei;simp at ei) e0 (.it (left'.map λt:Nat=>(AV.i t,AV.list ((Aw a cl s t).map encP))) (some (AV.i t,AV.list ((Aw a cl s t).map encP))));have ki:=Qf ei (.it (left'.map λt:Nat=>(AV.i t,AV.list ((Aw a cl s t).map encP))) (some (AV.i t,AV.list ((Aw a cl s t).map encP))));have kq:=Qc (j:=I) (by omega) eq (.it (left'.map λt:Nat=>(AV.i t,AV.list ((Aw a cl s t).map encP))) (some (AV.i t,AV.list ((Aw a cl s t).map encP))));generalize E.set I (.it (left'.map λt:Nat=>(AV.i t,AV.list ((Aw a cl s t).map encP))) (some (AV.i t,AV.list ((Aw a cl s t).map encP))))=E1 at *
 clear e0 ei eq;repeat(refine s_ ?_;simp)
 refine Qk rfl ?_;simp;repeat(refine s_ ?_;simp)
 refine Oc rfl rfl rfl rfl ki ?_;simp;have zn:(ds.map λt:Nat=>encMv ⟨0,t,Oh a.types.toNat (Aw a cl s t)⟩).length=ds.length:=by simp
 generalize y4:(ds.map λt:Nat=>encMv ⟨0,t,Oh a.types.toNat (Aw a cl s t)⟩)=mm at *
 repeat(refine s_ ?_;simp[k0])
 refine pcL (hU t) ?_;simp;refine apS T23 T73 ?_;simp[Qb kq,Qg kq,kq,zn];refine⟨by simp[Wo,Qb kq,Qg kq,kq,zn]<;>omega,?_⟩;repeat(refine s_ ?_;simp)
 refine lkA [(3,.vptr 0 0),(6,.nils),(10,.sl (E1.length+1) 3 0 (ds.length+1)),(43,.vptr I 0)] ?_;have xg:=Qe kq;refine zf _ (E1.length+1) _ ⟨by omega,by simpa using zm,Qb (Qc (j:=q) (by omega) k0 _) _,Qb (Qc (j:=q) (by omega) ki _) _,?_⟩ (by omega);rw[zF (by simp)];simp
end
section
open Go Go.Proofs
def Ch{a:Aut}(ha:Dfa a):(clA a).length=a.fin.length:=(k28 ha).len
def d2j{a:Aut}(ha:Dfa a):∀c∈clA a,c<=1000000:=λc hc=>by obtain⟨j,hj⟩:=List.mem_iff_getElem?.1 hc;obtain⟨z1,rfl⟩:=List.getElem?_eq_some_iff.1 hj;have:=(k28 ha).lt_fs (by rw[Ch ha]at z1;exact z1);have h2:=y1a ha;have h3:=ha.ok.fin;simp only[yL,zI z1,Option.getD_some]at this;have h4:(Gf (eqS a) a.fin.length).1.length<=a.fin.length:=h2;unfold clA at *;omega
def y11{l:List Nat}{i:Nat}(h:i<l.length):l.getD i 0∈l:=by rw[yL,zI h];exact zL h
def x28{a:Aut}(ha:Dfa a){c:Nat}(hc:L8 a c):c∈clA a:=by
 obtain⟨h1,h2⟩:=Yb ha hc;have hl:Yf a c<(clA a).length:=by rw[Ch ha];exact h1
 have e:En a (Yf a c)=(clA a).getD (Yf a c) 0:=rfl;rw[<-h2,e];exact y11 hl
def x2y{a:Aut}(ha:Dfa a){c:Nat}(hc:L8 a c):q02 (λy:Int=>((c:Nat):Int)==y) (Ud (clA a))=(Yf a c:Nat):=by
 have e:(λy:Int=>((c:Nat):Int)==y)=λy:Int=>y==((c:Nat):Int):=by funext y;rw[Bool.eq_iff_iff,beq_iff_eq,beq_iff_eq];exact eq_comm
 rw[e,f1n (x28 ha hc)];rfl
def f1v{a:Aut}(ha:Dfa a):(clA a)[0]?=some (En a 0):=by
 have z1:0<(clA a).length:=by rw[Ch ha];have:=ha.zero.2;omega
 have:En a 0=(clA a).getD 0 0:=by unfold En;rfl
 rw[this,yL,zI z1];rfl
def w13{a:Aut}(ha:Dfa a){c:Nat}(hc:L8 a c):c<=1000000:=by have h3:=y1a ha;have h4:=ha.ok.fin;unfold L8 at hc;omega
end
section
open Go Go.Proofs Go.Maps Go.RowKit
abbrev u1v (a:Aut):AObj:= .vars [.i a.types,.list (a.fin.map .bool),.list (a.mv.map encMv),.list (Ot a)]
def v1a(a:Aut)(c:Nat):j1j a (clA a) (Yf a c:Nat)=Yt a c:=rfl
def j0i{l:List Bool}{i:Nat}(h:i<l.length):l[i]?=some (l.getD i false):=by simp[yL,h]
attribute [local irreducible] clA Yf Yt W1 Fk Kz qMv qM qF Wn mpO En j1j Ot L8
def y0m(a:Aut)(ha:Dfa a):PC prog 56 [Yo a] (λr=>r=encA (Wn a)):=by
 refine pcB func56 results56 ntmps56 ?_;simp only[Qd];simp only[Yo,Ww];have xg:=ha.ok.fin;have hlen:=Ch ha;have hle:=d2j ha;have y3:0<(clA a).length:=by rw[hlen];have:=ha.zero.2;omega
 have xh:=f1v ha;have xi:En a 0<=1000000:=w13 ha (S6 ha ha.zero);repeat(refine s_ ?_;simp)
 have cG:=w06 a ha;have cM:=λ(s:Int) (hs:inS a s)=>z1s a ha (clA a) hlen hle s hs;have xj:=λ(c:Nat) (hc:L8 a c)=>x2y ha hc;have y4:(Ud (clA a))[0]?=some ((En a 0:Nat):Int):=by simp[xh]
 have yw:0<(Ud (clA a)).length:=by simp[y3]
 generalize Ud (clA a)=CL at *
 have zk:∀hh,CL[0]'hh=((En a 0:Nat):Int):=λhh=>(zZ hh).2 y4;simp only[Yo,Ww]at cG cM;refine pcL (cG) ?_;simp;repeat(refine s_ ?_;simp)
 refine Ea rfl rfl rfl ?_;simp[yw,y4,zk];refine k0t rfl rfl rfl rfl (c:=En a 0) rfl rfl rfl xi ?_;simp;repeat(refine s_ ?_;simp[yw,y4,zk])
 refine kpA [(1,.vptr 0 0),(2,.vptr 1 0),(3,LI CL),(4,.mref 2),(5,.sl 3 1 0 1),(6,.vptr 4 0),(7,.i (0:Nat))] ?_;refine Eu 4 1 4 1 rfl rfl ?_;refine Q3 λZ1 z8=>?_;have z1l:Z1.length=6:=by rw[z8];simp
 have z1c:Z1[4]?=some (.vars [.i a.types,.sl 5 1 0 0,.nils]):=by rw[z8];rfl
 have z1f:Z1[5]?=some (.arr 4 1 []):=by rw[z8];rfl
 have z1o:Z1[3]?=some (.arr 3 1 [.i (En a 0:Nat)]):=by rw[z8];rfl
 have z1m:Z1[2]?=some (mpO [En a 0]):=by rw[z8];rfl
 have z10:Z1[0]?=some (u1v a):=by rw[z8];rfl
 have z11:Z1[1]?=some (.vars [.i 0,.nils,.nils]):=by rw[z8];rfl
 clear z8;refine Eu 4 2 73 3 z1c rfl ?_;refine Q3 λZ2 za=>?_;have z2c:Z2[4]?=some (.vars [.i a.types,.sl 5 1 0 0,.sl 6 3 0 0]):=by rw[za,zK (by simp;omega)];simp[z1l]
 have z2f:Z2[5]?=some (.arr 4 1 []):=by rw[za,zE (by omega),zH (by omega)];exact z1f
 have z2v:Z2[6]?=some (.arr 73 3 []):=by rw[za,zE (by omega),zF (by omega)];simp[z1l]
 have z2o:Z2[3]?=some (.arr 3 1 [.i (En a 0:Nat)]):=by rw[za,zE (by omega),zH (by omega)];exact z1o
 have z2m:Z2[2]?=some (mpO [En a 0]):=by rw[za,zE (by omega),zH (by omega)];exact z1m
 have z20:Z2[0]?=some (u1v a):=by rw[za,zE (by omega),zH (by omega)];exact z10
 have z21:Z2[1]?=some (.vars [.i 0,.nils,.nils]):=by rw[za,zE (by omega),zH (by omega)];exact z11
 clear za z1l z1c z1f z10 z11 z1o z1m;clear Z1;refine lpV (F:=λ(u:Nat×List Nat×Nat×Nat×Nat×List AObj)=>⟨[(1,.vptr 0 0),(2,.vptr 1 0),(3,LI CL),(4,.mref 2),(5,.sl u.2.2.1 1 0 u.2.1.length),(6,.vptr 4 0),(7,.i u.1)],u.2.2.2.2.2⟩)
  (λu=>QI a u.1 u.2.1/\u.2.2.2.2.2[0]?=some (u1v a)/\u.2.2.2.2.2[1]?=some (.vars [.i 0,.nils,.nils])/\u.2.2.2.2.2[2]?=some (mpO u.2.1)/\u.2.2.2.2.2[4]?=some (.vars [.i a.types,.sl u.2.2.2.1 1 0 u.1,.sl u.2.2.2.2.1 3 0 (qM a u.1 u.2.1).length])/\u.2.2.2.2.2[u.2.2.1]?=some (.arr 3 1 ((Ud u.2.1).map .i))/\u.2.2.2.2.2[u.2.2.2.1]?=some (.arr 4 1 ((qF a (u.2.1.take u.1)).map .bool))/\u.2.2.2.2.2[u.2.2.2.2.1]?=some (.arr 73 3 ((qM a u.1 u.2.1).map encMv)))
  (λu=>a.fin.length+1 - u.1) ?_ (0,[En a 0],3,5,6,Z2) ⟨QI.zero ha,z20,z21,z2m,by rw[x1m];exact z2c,z2o,by simpa[g2g]using z2f,by rw[x1m];exact z2v⟩
 clear z20 z21 z2c z2f z2v z2o z2m;clear Z2;rintro⟨n,O,o,f,v,G⟩ ⟨hQ,g0,g1,gm,gc,go,gf,gv⟩ ih;simp only at hQ g0 g1 gm gc go gf gv ih |-;have w7:=hQ.len ha;have yy:=hQ.cl;repeat(refine s_ ?_;simp)
 refine Qa rfl (λxk=>?_) (λxl=>?_)
 ·have zd:n<O.length:=by simpa using xk
  have hw:=wz n (by omega);have y5:O[n]?=some O[n]:=zI zd;have zl:=yy _ (zL zd);have hst:=hQ.step ha y5;have yz:=u2m hQ y5;have x3:=k21 a (Yt a O[n]) y5;have xn:=j2o ha hQ;have zx:=λo' f' v' G'=>ih (n+1,W1 O (Yt a O[n]),o',f',v',G');simp only[yz,x3]at zx;clear yz x3 ih;have xp:((Ud O).map AV.i).length=O.length:=by simp
  have x4:=(Yb ha zl).1;have xq:=Yy ha zl;have xr:=xj _ zl;have xt:=v1a a O[n];have xu:=C1 ha zl;have x5:∀m∈Yt a O[n],∃d:Nat,m.dst=d/\d<=1000000:=λm hm=>by obtain⟨x,_,e,_,e2,_⟩:=Ol ha zl hm;exact⟨_,e,w13 ha e2⟩
  generalize xw:O[n]=c at *
  have x6:=j0i x4;have xy:∀hh,a.fin[Yf a c]'hh=a.fin.getD (Yf a c) false:=λhh=>(zZ hh).2 x6;generalize a.fin.getD (Yf a c) false=b at *
  have w8:(Wz a (Yf a c:Nat)).length<=a.mv.length:=yW _ _;have w9:=ha.ok.mvs;have y6:o≠f:=λe=>by rw[e,gf]at go;simp at go
  have y7:o≠v:=λe=>by rw[e,gv]at go;simp at go
  have ze:f≠v:=λe=>by rw[e,gv]at gf;simp at gf
  have zy:o≠4:=λe=>by rw[e,gc]at go;simp at go
  have zj:f≠4:=λe=>by rw[e,gc]at gf;simp at gf
  have zn:v≠4:=λe=>by rw[e,gc]at gv;simp at gv
  have x7:o≠0:=λe=>by rw[e,g0]at go;simp at go
  have xz:f≠0:=λe=>by rw[e,g0]at gf;simp at gf
  have y8:v≠0:=λe=>by rw[e,g0]at gv;simp at gv
  have x8:o≠1:=λe=>by rw[e,g1]at go;simp at go
  have y9:f≠1:=λe=>by rw[e,g1]at gf;simp at gf
  have zp:v≠1:=λe=>by rw[e,g1]at gv;simp at gv
  have ya:o≠2:=λe=>by rw[e,gm]at go;unfold mpO at go;simp at go
  have yb:f≠2:=λe=>by rw[e,gm]at gf;unfold mpO at gf;simp at gf
  have zz:v≠2:=λe=>by rw[e,gm]at gv;unfold mpO at gv;simp at gv
  repeat(refine s_ ?_;simp[go,xp,zd,xw])
  refine pcL (v0l CL c) ?_;simp;rw[xr];repeat(refine s_ ?_;simp)
  have zq:((qF a (O.take n)).map AV.bool).length=n:=by simp[w20];omega
  generalize wa:(qF a (O.take n))=fs at *;refine drT [9,11] (.pv 0 8 (.one 8 (.one 9 (.val 10 (.one 11 (.done)))))) ?_
  simp[gc,g0,x4,x6,xy];have g2c:∀M,(G.set f .dead++M)[4]?=some (.vars [.i a.types,.sl f 1 0 n,.sl v 3 0 (qM a n O).length]):=λM=>Qb (Qc zj gc _) M;have g2d:∀M hh,(G.set f .dead++M)[4]'hh= .vars [.i a.types,.sl f 1 0 n,.sl v 3 0 (qM a n O).length]:=λM hh=>(zZ hh).2 (g2c M);refine apS T22 T4 ?_;simp[Qb gf,Qg gf,gf,zq,g2c,g2d];refine⟨by simp[Wo,Qb gf,Qg gf,gf,zq,g2c,g2d]<;>omega,?_⟩;refine Q3 λZ hZ=>?_;have yd:=Qe go;have ye:=Qe gv;have yg:=Qe gf;have z0:Z[0]?=some (u1v a):=by rw[hZ];exact Qc (by decide) (Qb (Qc xz g0 _) _) _
  have z1:Z[1]?=some (.vars [.i 0,.nils,.nils]):=by rw[hZ];exact Qc (by decide) (Qb (Qc y9 g1 _) _) _
  have zm:Z[2]?=some (mpO O):=by rw[hZ];exact Qc (by decide) (Qb (Qc yb gm _) _) _
  have zc:Z[4]?=some (.vars [.i a.types,.sl (G.length+1) 1 0 (n+1),.sl v 3 0 (qM a n O).length]):=by rw[hZ];exact Qf (g2c _) _
  have zf:Z[G.length+1]?=some (.arr 4 1 ((fs++[b]).map .bool)):=by rw[hZ,zE (by omega),zF (by simp)];simp
  have zv:Z[v]?=some (.arr 73 3 ((qM a n O).map encMv)):=by rw[hZ];exact Qc (Ne.symm zn) (Qb (Qc ze gv _) _) _
  have zo:Z[o]?=some (.arr 3 1 ((Ud O).map .i)):=by rw[hZ];exact Qc (Ne.symm zy) (Qb (Qc (Ne.symm y6) go _) _) _
  clear hZ g2c g2d g0 g1 gc go gf gv gm;generalize G.length+1=f1 at *
  have cMc:=cM (Yf a c) xq;rw[xt]at cMc;obtain⟨M,hM⟩:∃M,M=qM a n O:=⟨_,rfl⟩
  rw[<-hM]at zc zv xn zx;obtain⟨L,hL⟩:∃L,L=Yt a c:=⟨_,rfl⟩
  rw[<-hL]at xu x5 zx hst cMc;repeat(refine s_ ?_;simp[z0])
  refine pcL (cMc) ?_;simp;repeat(refine s_ ?_;simp)
  refine lpW (F:=λ(u:Nat×Nat×Nat×List AObj)=>⟨[(1,.vptr 0 0),(2,.vptr 1 0),(3,LI CL),(4,.mref 2),(5,.sl u.2.1 1 0 (W1 O (L.take u.1)).length),(6,.vptr 4 0),(7,.i n),(54,.list (L.map encMv)),(55,.i L.length),(56,.i u.1)],u.2.2.2⟩)
   (λu=>u.1<=L.length/\u.2.2.2[0]?=some (u1v a)/\u.2.2.2[1]?=some (.vars [.i 0,.nils,.nils])/\u.2.2.2[2]?=some (mpO (W1 O (L.take u.1)))/\u.2.2.2[4]?=some (.vars [.i a.types,.sl f1 1 0 (n+1),.sl u.2.2.1 3 0 (M++qMv O L n u.1).length])/\u.2.2.2[u.2.1]?=some (.arr 3 1 ((Ud (W1 O (L.take u.1))).map .i))/\u.2.2.2[f1]?=some (.arr 4 1 ((fs++[b]).map .bool))/\u.2.2.2[u.2.2.1]?=some (.arr 73 3 ((M++qMv O L n u.1).map encMv))/\(W1 O (L.take u.1)).Nodup/\∀c∈W1 O (L.take u.1),c<=1000000)
   (λu=>L.length - u.1) ?_ (0,o,v,Z) ⟨xA _,z0,z1,by rw[wB,Ic];exact zm,by rw[u00,yV];exact zc,by rw[wB,Ic];exact zo,zf,by rw[u00,yV];exact zv,by rw[wB,Ic];exact hQ.nd,by rw[wB,Ic];exact λc hc=>w13 ha (yy c hc)⟩ (by simp[Ic])
  clear z0 z1 zc zo zf zv yd ye yg zm;clear Z;rintro⟨j,o,v,Z⟩ ⟨hj,z0,z1,zm,zc,zo,zf,zv,y2,zb⟩ ih2;simp only at hj z0 z1 zm zc zo zf zv y2 zb ih2 |-;repeat(refine s_ ?_;simp)
  refine Qa rfl (λyh=>?_) (λyi=>?_)
  ·have z7:j<L.length:=by simpa using yh
   have x9:=wz j (by omega);have xa:=j18 O L n z7;have xb:=J7 (o:=O) z7;have wb:=z2r O L n j;have we:(W1 O (L.take j)).length<=O.length+L.length:=j09 O (L.take j) (by simp;omega);have z6:=λo' v' Z'=>ih2 (j+1,o',v',Z');simp only[xa,xb,<-xO]at z6;clear xa xb;obtain⟨d,hd,yj⟩:=x5 _ (zL z7);have yk:(L.map encMv)[j]?=some (encMv L[j]):=by simp[z7]
   have yl:∀hh,(L.map encMv)[j]'hh=encMv L[j]:=λhh=>by simp
   generalize w2:L[j]=m at *;rw[hd]at z6;simp only[Int.toNat_natCast]at z6;generalize hN:M++qMv O L n j=N at *
   have wg:N.length<=700000:=by rw[<-hN,zW];omega
   generalize W1 O (L.take j)=Oj at *;simp only[encMv]at yk yl;rw[hd]at yk yl
   have wh:4<Z.length:=Qe zc;have y6:o≠f1:=λe=>by rw[e,zf]at zo;simp at zo
   have y7:o≠v:=λe=>by rw[e,zv]at zo;simp at zo
   have ze:f1≠v:=λe=>by rw[e,zv]at zf;simp at zf
   have zy:o≠4:=λe=>by rw[e,zc]at zo;simp at zo
   have zj:f1≠4:=λe=>by rw[e,zc]at zf;simp at zf
   have zn:v≠4:=λe=>by rw[e,zc]at zv;simp at zv
   have x7:o≠0:=λe=>by rw[e,z0]at zo;simp at zo
   have y8:v≠0:=λe=>by rw[e,z0]at zv;simp at zv
   have x8:o≠1:=λe=>by rw[e,z1]at zo;simp at zo
   have zp:v≠1:=λe=>by rw[e,z1]at zv;simp at zv
   have ya:o≠2:=λe=>by rw[e,zm]at zo;unfold mpO at zo;simp at zo
   have zz:v≠2:=λe=>by rw[e,zm]at zv;unfold mpO at zv;simp at zv
   have yb:f1≠2:=λe=>by rw[e,zm]at zf;unfold mpO at zf;simp at zf
   repeat(refine s_ ?_;simp[yk,yl,z7])
   refine Jl λY hY=>?_;have y0:Y[0]?=some (u1v a):=by rw[hY];exact Qb z0 _
   have y1:Y[1]?=some (.vars [.i 0,.nils,.nils]):=by rw[hY];exact Qb z1 _
   have ym:Y[2]?=some (mpO Oj):=by rw[hY];exact Qb zm _
   have yc:Y[4]?=some (.vars [.i a.types,.sl f1 1 0 (n+1),.sl v 3 0 N.length]):=by rw[hY];exact Qb zc _
   have yo:Y[o]?=some (.arr 3 1 ((Ud Oj).map .i)):=by rw[hY];exact Qb zo _
   have yf:Y[f1]?=some (.arr 4 1 ((fs++[b]).map .bool)):=by rw[hY];exact Qb zf _
   have yv:Y[v]?=some (.arr 73 3 (N.map encMv)):=by rw[hY];exact Qb zv _
   have yx:Y[Z.length]?=some (.vars [.i m.src,.i d,.list (m.on.map encL)]):=by rw[hY,zF (by simp)];simp
   clear hY z0 z1 zm zc zo zf zv;generalize Z.length=u at *;clear Z
   have wi:v≠u:=λe=>by rw[e,yx]at yv;simp at yv
   have w3:o≠u:=λe=>by rw[e,yx]at yo;simp at yo
   have w4:2≠u:=λe=>by rw[<-e,ym]at yx;unfold mpO at yx;simp at yx
   have wj:4<u:=by omega
   refine w00 rfl rfl rfl rfl (c:=d) rfl (l:=Oj) ym y2 zb yj ?_;by_cases hmem:d∈Oj
   ·have zr:Fk Oj d=Oj:=by unfold Fk;rw[if_pos hmem]
    rw[zr]at z6;rw[if_pos hmem,decide_eq_true hmem];obtain⟨x,hx⟩:∃x,x=Kz Oj d:=⟨_,rfl⟩
    rw[<-hx]at z6 |-;clear hx zr;simp;repeat(refine s_ ?_;simp)
    refine Qk rfl ?_;simp;have zg:=zy;have zh:=y7;have zi:=y2;have yn:=zb;have zt:(N.map encMv).length=N.length:=by simp
    have yp:(N++[(⟨n,x,m.on⟩:Mv)]).map encMv=N.map encMv++[encMv ⟨n,x,m.on⟩]:=by simp
    have yq:(N++[(⟨n,x,m.on⟩:Mv)]).length=N.length+1:=by simp
    rw[yp,yq]at z6;generalize N.map encMv=NM at *
    have g3c:∀M,(Y.set v .dead++M)[4]?=some (.vars [.i a.types,.sl f1 1 0 (n+1),.sl v 3 0 N.length]):=λM=>Qb (Qc zn yc _) M;have g3d:∀M hh,(Y.set v .dead++M)[4]'hh= .vars [.i a.types,.sl f1 1 0 (n+1),.sl v 3 0 N.length]:=λM hh=>(zZ hh).2 (g3c M);repeat(refine s_ ?_;simp[yc,yx])
    refine apS T23 T73 ?_;simp[Qb yv,Qg yv,yv,zt,g3c,g3d];refine⟨by simp[Wo,Qb yv,Qg yv,yv,zt,g3c,g3d]<;>omega,?_⟩;refine Q3 λW hW=>?_;have yr:=Qe yv;have yt:=Qe yc;have w0:W[0]?=some (u1v a):=by rw[hW];exact Qc (by decide) (Qb (Qc y8 y0 _) _) _
    have w1:W[1]?=some (.vars [.i 0,.nils,.nils]):=by rw[hW];exact Qc (by decide) (Qb (Qc zp y1 _) _) _
    have wm:W[2]?=some (mpO Oj):=by rw[hW];exact Qc (by decide) (Qb (Qc zz ym _) _) _
    have wc:W[4]?=some (.vars [.i a.types,.sl f1 1 0 (n+1),.sl (Y.length+1) 3 0 (N.length+1)]):=by rw[hW];exact Qf (g3c _) _
    have wo:W[o]?=some (.arr 3 1 ((Ud Oj).map .i)):=by rw[hW];exact Qc (Ne.symm zg) (Qb (Qc (Ne.symm zh) yo _) _) _
    have wf:W[f1]?=some (.arr 4 1 ((fs++[b]).map .bool)):=by rw[hW];exact Qc (Ne.symm zj) (Qb (Qc (Ne.symm ze) yf _) _) _
    have wv:W[Y.length+1]?=some (.arr 73 3 (NM++[encMv ⟨n,x,m.on⟩])):=by rw[hW,zE (by omega),zF (by simp)];simp
    clear hW;repeat(refine s_ ?_;simp[x9])
    exact lkB (z6 o (Y.length+1) W ⟨by omega,w0,w1,wm,wc,wo,wf,wv,zi,yn⟩ (by omega))
   have zr:Fk Oj d=Oj++[d]:=by unfold Fk;rw[if_neg hmem]
   have xd:=x1i hmem;rw[zr,xd]at z6;rw[if_neg hmem,decide_eq_false hmem];clear zr xd;simp;repeat(refine s_ ?_;simp)
   refine Qk rfl ?_;simp;repeat(refine s_ ?_;simp[yx])
   refine u08 rfl rfl rfl rfl (c:=d) rfl (l:=Oj) rfl ym zb yj hmem ?_;simp;refine Q3 λX hX=>?_;have x0:X[0]?=some (u1v a):=by rw[hX];exact Qc (by decide) y0 _
   have x1:X[1]?=some (.vars [.i 0,.nils,.nils]):=by rw[hX];exact Qc (by decide) y1 _
   have xm:X[2]?=some (mpO (Oj++[d])):=by rw[hX];exact Qf ym _
   have xc:X[4]?=some (.vars [.i a.types,.sl f1 1 0 (n+1),.sl v 3 0 N.length]):=by rw[hX];exact Qc (by decide) yc _
   have xo:X[o]?=some (.arr 3 1 ((Ud Oj).map .i)):=by rw[hX];exact Qc (Ne.symm ya) yo _
   have xf:X[f1]?=some (.arr 4 1 ((fs++[b]).map .bool)):=by rw[hX];exact Qc (Ne.symm yb) yf _
   have xv:X[v]?=some (.arr 73 3 (N.map encMv)):=by rw[hX];exact Qc (Ne.symm zz) yv _
   have xx:X[u]?=some (.vars [.i m.src,.i d,.list (m.on.map encL)]):=by rw[hX];exact Qc w4 yx _
   clear hX y0 y1 ym yc yo yf yv yx;clear Y;have w5:(Ud Oj).length=Oj.length:=by simp
   have w6:Ud (Oj++[d])=Ud Oj++[(d:Int)]:=by simp
   rw[w6]at z6;generalize Ud Oj=NO at *
   have zu:(NO.map AV.i).length=Oj.length:=by simp[w5]
   have x0s:∀E,(X.set o .dead++E)[u]?=some (.vars [.i m.src,.i d,.list (m.on.map encL)]):=λE=>Qb (Qc w3 xx _) E;repeat(refine s_ ?_;simp[xx])
   refine apS T47 T3 ?_;simp[Qb xo,Qg xo,xo,zu];refine⟨by simp[Wo,Qb xo,Qg xo,xo,zu]<;>omega,?_⟩;refine Q3 λY hY=>?_;have wk:=Qe xv;have wq:=Qe xf;have wu:=Qe xc;have y0:Y[0]?=some (u1v a):=by rw[hY];exact Qb (Qc x7 x0 _) _
   have y1:Y[1]?=some (.vars [.i 0,.nils,.nils]):=by rw[hY];exact Qb (Qc x8 x1 _) _
   have ym:Y[2]?=some (mpO (Oj++[d])):=by rw[hY];exact Qb (Qc ya xm _) _
   have yc:Y[4]?=some (.vars [.i a.types,.sl f1 1 0 (n+1),.sl v 3 0 N.length]):=by rw[hY];exact Qb (Qc zy xc _) _
   have yf:Y[f1]?=some (.arr 4 1 ((fs++[b]).map .bool)):=by rw[hY];exact Qb (Qc y6 xf _) _
   have yv:Y[v]?=some (.arr 73 3 (N.map encMv)):=by rw[hY];exact Qb (Qc y7 xv _) _
   have yx:Y[u]?=some (.vars [.i m.src,.i d,.list (m.on.map encL)]):=by rw[hY];exact x0s _
   have yo:Y[X.length+1]?=some (.arr 3 1 ((NO++[(d:Int)]).map .i)):=by rw[hY,zF (by simp)];simp
   clear hY;obtain⟨x,hx⟩:∃x,x=Oj.length:=⟨_,rfl⟩
   refine Ru (sl':=[(1,.vptr 0 0),(2,.vptr 1 0),(3,LI CL),(4,.mref 2),(5,.sl (X.length+1) 1 0 (Oj++[d]).length),(6,.vptr 4 0),(7,.i n),(10,.vptr u 0),(11,.i x),(54,.list (L.map encMv)),(55,.i L.length),(56,.i j)]) ?_ (by simp[hx]);rw[<-hx]at z6;have zg:X.length+1≠4:=by omega
   have zh:X.length+1≠v:=by omega
   have zi:(Oj++[d]).Nodup:=List.nodup_append.2 ⟨y2,by simp,λx hx y hy e=>by rw[zP.1 hy]at e;exact hmem (e▸hx)⟩;have yn:∀c∈Oj++[d],c<=1000000:=λc hc=>by
    rcases zV.1 hc with hc|hc
    ·exact zb c hc
    rw[zP.1 hc];exact yj
   generalize X.length+1=oq at *;generalize NO++[(d:Int)]=NQ at *;clear hx;generalize Oj++[d]=OQ at *
   have zt:(N.map encMv).length=N.length:=by simp
   have yp:(N++[(⟨n,x,m.on⟩:Mv)]).map encMv=N.map encMv++[encMv ⟨n,x,m.on⟩]:=by simp
   have yq:(N++[(⟨n,x,m.on⟩:Mv)]).length=N.length+1:=by simp
   rw[yp,yq]at z6;generalize N.map encMv=NM at *
   have g3c:∀M,(Y.set v .dead++M)[4]?=some (.vars [.i a.types,.sl f1 1 0 (n+1),.sl v 3 0 N.length]):=λM=>Qb (Qc zn yc _) M;have g3d:∀M hh,(Y.set v .dead++M)[4]'hh= .vars [.i a.types,.sl f1 1 0 (n+1),.sl v 3 0 N.length]:=λM hh=>(zZ hh).2 (g3c M);repeat(refine s_ ?_;simp[yc,yx])
   refine apS T23 T73 ?_;simp[Qb yv,Qg yv,yv,zt,g3c,g3d];refine⟨by simp[Wo,Qb yv,Qg yv,yv,zt,g3c,g3d]<;>omega,?_⟩;refine Q3 λW hW=>?_;have yr:=Qe yv;have yt:=Qe yc;have w0:W[0]?=some (u1v a):=by rw[hW];exact Qc (by decide) (Qb (Qc y8 y0 _) _) _
   have w1:W[1]?=some (.vars [.i 0,.nils,.nils]):=by rw[hW];exact Qc (by decide) (Qb (Qc zp y1 _) _) _
   have wm:W[2]?=some (mpO OQ):=by rw[hW];exact Qc (by decide) (Qb (Qc zz ym _) _) _
   have wc:W[4]?=some (.vars [.i a.types,.sl f1 1 0 (n+1),.sl (Y.length+1) 3 0 (N.length+1)]):=by rw[hW];exact Qf (g3c _) _
   have wo:W[oq]?=some (.arr 3 1 (NQ.map .i)):=by rw[hW];exact Qc (Ne.symm zg) (Qb (Qc (Ne.symm zh) yo _) _) _
   have wf:W[f1]?=some (.arr 4 1 ((fs++[b]).map .bool)):=by rw[hW];exact Qc (Ne.symm zj) (Qb (Qc (Ne.symm ze) yf _) _) _
   have wv:W[Y.length+1]?=some (.arr 73 3 (NM++[encMv ⟨n,x,m.on⟩])):=by rw[hW,zE (by omega),zF (by simp)];simp
   clear hW;repeat(refine s_ ?_;simp[x9])
   exact lkB (z6 oq (Y.length+1) W ⟨by omega,w0,w1,wm,wc,wo,wf,wv,zi,yn⟩ (by omega))
  have zw:j=L.length:=by simp at yi;omega
  subst zw;rw[zY]at zo zm |-;repeat(refine s_ ?_;simp[hw])
  exact lkB (zx o f1 v Z ⟨hst,z0,z1,zm,zc,zo,zf,zv⟩ (by omega))
 have yu:n=O.length:=by simp at xl;have:=hQ.le;omega
 rw[z2y ha hQ yu];have xe:=w20 a (O.take n);rw[xR,Nat.min_eq_left hQ.le]at xe;generalize qF a (O.take n)=fs at *;generalize qM a n O=M at *
 have ze:f≠v:=λe=>by rw[e,gv]at gf;simp at gf
 have zj:f≠4:=λe=>by rw[e,gc]at gf;simp at gf
 have zn:v≠4:=λe=>by rw[e,gc]at gv;simp at gv
 have y9:f≠1:=λe=>by rw[e,g1]at gf;simp at gf
 have zp:v≠1:=λe=>by rw[e,g1]at gv;simp at gv
 rw[<-xe]at gc;refine kpA [(2,.vptr 1 0),(6,.vptr 4 0)] ?_;refine Q0 v gv 4 gc ?_;simp[ze];rw[zT (by simp)];refine Q3 λZ hZ=>?_;have wx:=Qe gv;have z2:Z[4]?=some (.vars [.i a.types,.sl f 1 0 fs.length,.list (M.map encMv)]):=by rw[hZ,zK (by have:=Qe gc;simpa using this)]
 have zf:Z[f]?=some (.arr 4 1 (fs.map .bool)):=by rw[hZ,zE (Ne.symm zj),zE (Ne.symm ze)];exact gf
 have z1:Z[1]?=some (.vars [.i 0,.nils,.nils]):=by rw[hZ,zE (by decide),zE zp];exact g1
 clear hZ;refine Q0 f zf 4 z2 ?_;simp;rw[zT (by simp)];refine Q3 λX hX=>?_;have x2:X[4]?=some (.vars [.i a.types,.list (fs.map .bool),.list (M.map encMv)]):=by rw[hX,zK (by have:=Qe z2;simpa using this)]
 have x1:X[1]?=some (.vars [.i 0,.nils,.nils]):=by rw[hX,zE (by decide),zE y9];exact z1
 clear hX;have x1s:∀Y,(X.set 1 Y)[1]?=some Y:=λY=>Qf x1 Y;repeat(refine s_ ?_;simp[x2,x1,x1s])
end
section
open Go Go.Proofs
def f1j{a:Aut}(ha:Dfa a){m:Mv}(hm:m∈(Wn a).mv):E9 a.types m.on=0↔(m.on.any λs=>decide (256<s.length))=false:=by
 have h:=B6 ha;have hT:=ha.ok.types;have hw:PWf a.types.toNat m.on:=h.on m hm;rw[Eg];simp only[vw,decide_eq_true_eq];constructor
 ·rintro⟨_,h2⟩ s hs;have:=(h2.2 s hs).len;omega
 intro h2;refine⟨hT,hw.1,λs hs=>?_⟩;have z1:=hw.2 s hs;exact Dn z1.1 (q04 z1.1 z1.2) (by have:=h2 s hs;omega)
def q19{a:Aut}(h:Wu a≠0):(W7 a).1=Wu a:=by unfold W7;rw[y0w h,if_pos h]
def q1j{a:Aut}(h:(W7 a).1≠0):Jd a=((W7 a).1,Yj):=by rw[Jd,if_pos h]
def k2a{a:Aut}(h:Wu a≠0):Jd a=(Wu a,Yj):=by rw[q1j (by rw[q19 h];exact h),q19 h]
def Cr{a:Aut}(h:(W7 a).1=0):L4 (W7 a).2=Ad (W7 a).2:=by rw[L4,if_neg (λk=>k ((I8 _).2 (w2l h)))]
def k2c{a:Aut}(h:(W7 a).1=0)(h2:(L4 (W7 a).2).1≠0):Jd a=((L4 (W7 a).2).1,Yj):=by rw[Cr h]at *;rw[Jd,if_neg (λk=>k h),if_pos h2]
def g2r{a:Aut}(h:(W7 a).1=0)(h2:(L4 (W7 a).2).1=0):Jd a=if Zb (Wn (L4 (W7 a).2).2)then(5,Yj)else(0,Wn (L4 (W7 a).2).2):=by rw[Cr h]at *;rw[Jd,if_neg (λk=>k h),if_neg (λk=>k h2)]
def d1f{a:Aut}(z1:Wu a=0)(h:(W7 a).1=0)(h2:(L4 (W7 a).2).1=0):Dfa (L4 (W7 a).2).2:=by rw[Cr h]at *;exact(x1y ((I8 a).1 z1) (d:=(W7 a).2) (c:=(Ad (W7 a).2).2) (u6 h rfl) (u6 h2 rfl)).1
end
section
open Go Go.Proofs Go.Maps Go.RowKit
attribute [local irreducible] W7 L4 Wn Jd Wu E9 Ot
def q0q(a:Aut):PC prog 18 [encA a] (λr=>r= .tup [encA (Jd a).2,.i (Jd a).1]):=by
 refine pcB func18 results18 ntmps18 ?_;simp only[Qd];simp only[encA];obtain⟨R,hR⟩:∃R,Jd a=R:=⟨_,rfl⟩
 rw[hR];repeat(refine s_ ?_;simp)
 refine pcL (Tm a) ?_;simp;repeat(refine s_ ?_;simp)
 refine Qa rfl (λh=>?_) (λh=>?_)
 ·have h':Wu a≠0:=by simpa using h
  rw[k2a h']at hR;rw[<-hR];repeat(refine s_ ?_;simp)
  exact⟨rfl,rfl,rfl⟩
 have z8:Wu a=0:=by simpa using h
 repeat(refine s_ ?_;simp)
 refine pcL (T1 a) ?_;simp;repeat(refine s_ ?_;simp)
 refine Qa rfl (λh=>?_) (λh=>?_)
 ·have h':(W7 a).1≠0:=by simpa using h
  rw[q1j h']at hR;rw[<-hR];repeat(refine s_ ?_;simp)
  exact⟨rfl,rfl,rfl⟩
 have hd:(W7 a).1=0:=by simpa using h
 have zc:=λh=>k2c (a:=a) hd h;have zd:=λh=>g2r (a:=a) hd h;have ze:=λh=>d1f (a:=a) z8 hd h;generalize (W7 a).2=d at *
 repeat(refine s_ ?_;simp)
 refine pcL (z0c d) ?_;simp;repeat(refine s_ ?_;simp)
 refine Qa rfl (λh=>?_) (λh=>?_)
 ·have h':(L4 d).1≠0:=by simpa using h
  rw[zc h']at hR;rw[<-hR];repeat(refine s_ ?_;simp)
  exact⟨rfl,rfl,rfl⟩
 have hc:(L4 d).1=0:=by simpa using h
 have z7:=zd hc;have ha:=ze hc;rw[hR]at z7;clear zd ze zc;generalize (L4 d).2=c at *
 repeat(refine s_ ?_;simp)
 refine pcL (Cl c ha.ok) ?_;simp;refine pcL (y0m c ha) ?_;simp;repeat(refine s_ ?_;simp)
 have zj:=λ(m:Mv) (hm:m∈(Wn c).mv)=>f1j ha hm;have zp:(Wn c).mv.length<=2048:=yP (Mm ha) ha.ok.mvs;have zf:Zb (Wn c)=(Wn c).mv.any λk=>k.on.any λs=>decide (256<s.length):=rfl;have zk:(Wn c).types=c.types:=y0t c;generalize Wn c=m at *;refine Q3 λZ hZ=>?_
 have z1:Z[1]?=some (.vars [.i 0,.nils,.nils]):=by rw[hZ];rfl
 have z4:Z[4]?=some (.vars (Qj m)):=by rw[hZ];rfl
 clear hZ;refine lpV (F:=λ(u:Nat×List AObj)=>⟨[(2,.vptr 1 0),(3,.i 0),(8,.vptr 4 0),(39,.list (m.mv.map encMv)),(40,.i m.mv.length),(41,.i u.1)],u.2⟩)
  (λu=>u.1<=m.mv.length/\u.2[1]?=some (.vars [.i 0,.nils,.nils])/\u.2[4]?=some (.vars (Qj m))/\∀k∈m.mv.take u.1,(k.on.any λs=>decide (256<s.length))=false) (λu=>m.mv.length - u.1) ?_ (0,Z) ⟨xA _,z1,z4,by simp⟩
 clear z1 z4;clear Z;rintro⟨j,Z⟩ ⟨hj,z1,z4,za⟩ ih;simp only at hj z1 z4 za ih |-;repeat(refine s_ ?_;simp)
 refine Qa rfl (λzl=>?_) (λzm=>?_)
 ·have z6:j<m.mv.length:=by simpa using zl
  have hw:=wz j (by omega);have zg:=zL z6;have z8:=zj _ zg;have zn:∀k∈m.mv.take (j+1),k∈m.mv.take j\/k=m.mv[j]:=λk hk=>by
   rw[List.take_succ_eq_append_getElem z6]at hk;rcases zV.1 hk with h|h
   ·exact .inl h
   exact .inr (zP.1 h)
  have zh:(m.mv.map encMv)[j]?=some (encMv m.mv[j]):=by simp[z6]
  have zi:∀hh,(m.mv.map encMv)[j]'hh=encMv m.mv[j]:=λhh=>by simp
  generalize zq:m.mv[j]=k at *;simp only[encMv]at zh zi
  have z4s:∀E,(Z++E)[4]?=some (.vars (Qj m)):=λE=>Qb z4 E;have z4h:∀E hh,(Z++E)[4]'hh= .vars (Qj m):=λE hh=>(zZ hh).2 (z4s E);repeat(refine s_ ?_;simp[zh,zi,z6,z4s,z4h])
  refine pcL (De m.types k.on) ?_;simp;rw[zk];refine Q3 λY hY=>?_;have y1:Y[1]?=some (.vars [.i 0,.nils,.nils]):=by rw[hY];exact Qb z1 _
  have y4:Y[4]?=some (.vars (Qj m)):=by rw[hY];exact Qb z4 _
  have yx:Y[Z.length]?=some (.vars [.i k.src,.i k.dst,.list (k.on.map encL)]):=by rw[hY,zF (by simp)];simp
  clear hY;have y1s:∀X,(Y.set 1 X)[1]?=some X:=λX=>Qf y1 X;refine Qa rfl (λh=>?_) (λh=>?_)
  ·have h':Zb m=true:=by
    rw[zf,List.any_eq_true];refine⟨k,zg,?_⟩;have h2:E9 c.types k.on≠0:=by simpa using h
    cases hb:k.on.any λs=>decide (256<s.length)with
    |true=>rfl
    |false=>exact absurd (z8.2 hb) h2
   rw[if_pos h']at z7;rw[z7];repeat(refine s_ ?_;simp[y1,y1s])
   exact⟨rfl,rfl,rfl⟩
  have h2:E9 c.types k.on=0:=by simpa using h
  repeat(refine s_ ?_;simp[hw])
  refine lkA [(2,.vptr 1 0),(3,.i 0),(8,.vptr 4 0),(39,.list (m.mv.map encMv)),(40,.i m.mv.length),(41,.i (j+1:Nat))] ?_;refine ih (j+1,Y) ⟨by omega,y1,y4,λk' zo=>?_⟩ (by simp only;omega);rcases zn k' zo with e|rfl
  ·exact za k' e
  exact z8.1 h2
 have zb:j=m.mv.length:=by simp at zm;omega
 subst zb;rw[zY]at za;have h':Zb m=false:=by rw[zf,vw];exact λk hk=>by rw[za k hk];simp
 rw[h',if_neg (by simp)]at z7;rw[z7];have y1s:∀X,(Z.set 1 X)[1]?=some X:=λX=>Qf z1 X;repeat(refine s_ ?_;simp[z4,z1,y1s])
end
def z1d{a p:Aut}(ha:OkA a)(hp:OkA p)(ht:p.types=a.types)(hl:∀w,(∀z∈w,Q9 a z)->Eo p w=true->Eo a w=true):(Nk a p).2=5\/Nk a p=(([],true),0):=by
 have hb:Em a p=0:=E6.2 ⟨ha,hp,ht⟩;rcases Be hb with h|h
 ·right;rcases u1b hb h with⟨w,_,h2⟩|⟨h1,_⟩
  ·have h3:=u22 h2;rw[hl w h2.okw h3.1]at h3;exact absurd h3.2 (by simp)
  exact h1
 left;rw[k15 (by omega)];exact h
def v2b{a m:Aut}(ha:OkA a)(hm:OkA m)(ht:m.types=a.types)(hl:∀w,(∀z∈w,Q9 a z)->Eo m w=Eo a w):(Z6 a m).2=5\/Z6 a m=(([],false),0):=by
 have hb:Em a m=0:=E6.2 ⟨ha,hm,ht⟩;rcases Be hb with h|h
 ·right;rcases Mc hb h with⟨w,_,h2⟩|⟨h1,_⟩
  ·exact absurd (hl w h2.okw).symm (v2z h2)
  exact h1
 left;rw[x0d (by omega)];exact h
def v2x{a c:Aut}(ha:OkA a)(hc:OkA c)(ht:c.types=a.types)(hl:∀w,(∀z∈w,Q9 a z)->Eo c w= !Eo a w):(Z6 a c).2=5\/∃w,Z6 a c=((w,true),0):=by
 have hb:Em a c=0:=E6.2 ⟨ha,hc,ht⟩;rcases Be hb with h|h
 ·right;rcases Mc hb h with⟨w,h1,_⟩|⟨_,h2⟩
  ·exact⟨w,h1⟩
  have h3:=h2 [] (by simp);rw[hl [] (by simp)]at h3;cases h4:Eo a []<;>rw[h4]at h3<;>simp at h3
 left;rw[x0d (by omega)];exact h
section
open Go Go.Proofs Go.Maps Go.RowKit
def g1p(u:Aut):(k09 u=(Yj,5))\/(k09 u=(u,0)/\u.fin.length<=256/\u.mv.length<=2048):=by
 unfold k09;by_cases h:256<u.fin.length\/2048<u.mv.length
 ·rw[if_pos h];exact .inl rfl
 rw[if_neg h];exact .inr ⟨rfl,by omega,by omega⟩
attribute [local irreducible] v0t Nk Z6 Em R5 d07 Jd g0t k09 U9
def y0u(a b:Aut):PC prog 11 [encA a,encA b] (λr=>r= .bool true):=by
 refine pcB func11 results11 ntmps11 ?_;simp only[Qd];have cV:=u1s a b;simp only[encA]at cV |-;repeat(refine s_ ?_;simp)
 refine pcL (cV) ?_;simp;refine Qa rfl (λh=>?_) (λh=>?_)
 ·repeat(refine s_ ?_;simp)
  refine pcL (R3) ?_;simp;repeat(refine s_ ?_;simp)
 have hv:(v0t a && v0t b && decide (Em a b=0))=true:=by simpa using h
 rw[z_,z_,decide_eq_true_eq]at hv;obtain⟨_,hb⟩:=hv;obtain⟨ha,z7,ht⟩:=E6.1 hb;have cP:=z0q a b ha z7 ht;have cU:=v1y a b ha z7 ht;have cM:=q0q a;have cC:=Bp a;have z8:=q1z ha;have za:=u20 ha;have z1:=λm h=>q1o (m:=m) ha h;have z6:=λc h=>f1h (c:=c) ha h;obtain⟨⟨em,m⟩,hM⟩:∃Z,Jd a=Z:=⟨_,rfl⟩
 obtain⟨⟨ec,c⟩,hC⟩:∃Z,g0t a=Z:=⟨_,rfl⟩
 rw[hM]at cM z8;rw[hC]at cC za;have zb:=g1p (U9 a b);have zc:=j2w ha z7 ht;have zf:(U9 a b).types=a.types:=by unfold U9;rfl
 have zd:∀w,(∀z∈w,Q9 (U9 a b) z)->Eo a w=true->Eo (U9 a b) w=true:=λw _ h=>x2b ha h;obtain⟨⟨u,eu⟩,hU⟩:∃Z,k09 (U9 a b)=Z:=⟨_,rfl⟩
 rw[hU]at cU zb;simp only[encA]at cU cM cC z8 za;refine kpA [(2,.vptr 0 0),(3,.vptr 1 0),(4,.bool false)] ?_;repeat(refine s_ ?_;simp)
 refine Ve rfl rfl (by simp) cP rfl ?_;rintro _ (rfl|⟨p,rfl,hp,zg,prs,ze⟩)
 ·simp[Yj,encA];repeat(refine s_ ?_;simp)
  refine pcL (cU) ?_;simp;repeat(refine s_ ?_;simp)
  refine pcL (cM) ?_;simp;repeat(refine s_ ?_;simp)
  refine pcL (cC) ?_;simp;refine kpA [(4,.bool false),(6,.i 5),(8,.i eu),(10,.i em),(12,.i ec)] ?_;repeat(refine s_ ?_;simp)
  refine Qa rfl (λ_=>?_) (λh=>by simp at h);repeat(refine s_ ?_;simp)
  refine pcL (R3) ?_;simp;repeat(refine s_ ?_;simp)
 simp[encA];repeat(refine s_ ?_;simp)
 refine pcL (cU) ?_;simp;repeat(refine s_ ?_;simp)
 refine pcL (cM) ?_;simp;repeat(refine s_ ?_;simp)
 refine pcL (cC) ?_;simp;by_cases hall:eu=0/\em=0/\ec=0
 ·obtain⟨rfl,rfl,rfl⟩:=hall;obtain⟨zh,zq,zi,zj,_⟩:=z1 m hM;obtain⟨zk,zr,zt,zl,zm⟩:=z6 c hC;have zn:u=U9 a b/\u.fin.length<=256/\u.mv.length<=2048:=by
   rcases zb with h|⟨h,h1,h2⟩
   ·have:=congrArg (·.2) h;simp at this
   have h3:=congrArg (·.1) h;simp only at h3;exact⟨h3,by rw[h3];exact h1,by rw[h3];exact h2⟩
  obtain⟨rfl,u1,u2⟩:=zn;have zo:=zc u1 u2;have b1:=z1d ha hp zg (λw hw hh=>(ze.lang ha z7 hp hw hh).1);have b2:=z1d zo ha zf.symm zd;have b3:=v2b ha zh zi zj;have b4:=v2x ha zk zl zm;have cI:=O1 a p;have cJ:=O1 (U9 a b) a;have cS:=O0 a m;have cT:=O0 a c;simp only[encA]at cI cJ cS cT;refine kpA [(2,.vptr 0 0),(4,.bool false),(5,.vptr 2 0),(6,.i 0),(7,.vptr 3 0),(8,.i 0),(9,.vptr 4 0),(10,.i 0),(11,.vptr 5 0),(12,.i 0)] ?_;repeat(refine s_ ?_;simp)
  refine Qa rfl (λh=>by simp at h) (λ_=>?_);obtain⟨⟨⟨w1,i1⟩,e1⟩,hI⟩:∃Z,Nk a p=Z:=⟨_,rfl⟩
  obtain⟨⟨⟨w2,i2⟩,e2⟩,hJ⟩:∃Z,Nk (U9 a b) a=Z:=⟨_,rfl⟩
  obtain⟨⟨⟨w3,i3⟩,e3⟩,hS⟩:∃Z,Z6 a m=Z:=⟨_,rfl⟩
  obtain⟨⟨⟨w4,i4⟩,e4⟩,hT⟩:∃Z,Z6 a c=Z:=⟨_,rfl⟩
  rw[hI]at cI b1;rw[hJ]at cJ b2;rw[hS]at cS b3;rw[hT]at cT b4;simp only[y14]at cI cJ cS cT;repeat(refine s_ ?_;simp)
  refine pcL (cI) ?_;simp;repeat(refine s_ ?_;simp)
  refine pcL (cJ) ?_;simp;repeat(refine s_ ?_;simp)
  refine pcL (cS) ?_;simp;repeat(refine s_ ?_;simp)
  refine pcL (cT) ?_;simp;have d1:e1=5\/(i1=true/\e1=0):=b1.imp (λh=>h) (λh=>⟨congrArg (·.1.2) h,congrArg (·.2) h⟩);have d2:e2=5\/(i2=true/\e2=0):=b2.imp (λh=>h) (λh=>⟨congrArg (·.1.2) h,congrArg (·.2) h⟩);have d3:e3=5\/(i3=false/\e3=0):=b3.imp (λh=>h) (λh=>⟨congrArg (·.1.2) h,congrArg (·.2) h⟩);have d4:e4=5\/(i4=true/\e4=0):=b4.imp (λh=>h) (λ⟨w,h⟩=>⟨congrArg (·.1.2) h,congrArg (·.2) h⟩);clear b1 b2 b3 b4 cI cJ cS cT;refine kpA [(4,.bool false),(14,.bool i1),(15,.i e1),(17,.bool i2),(18,.i e2),(20,.bool i3),(21,.i e3),(23,.bool i4),(24,.i e4)] ?_;by_cases hz:e1=0/\e2=0/\e3=0/\e4=0
  ·obtain⟨rfl,rfl,rfl,rfl⟩:=hz;have j1:i1=true:=d1.elim (λh=>by omega) (·.1);have j2:i2=true:=d2.elim (λh=>by omega) (·.1);have j3:i3=false:=d3.elim (λh=>by omega) (·.1);have j4:i4=true:=d4.elim (λh=>by omega) (·.1);subst j1 j2 j3 j4;repeat(refine s_ ?_;simp)
   refine Qa rfl (λh=>by simp at h) (λ_=>?_);repeat(refine s_ ?_;simp)
   refine pcL (R3) ?_;simp;repeat(refine s_ ?_;simp)
  have f1:e1=0\/e1=5:=d1.elim .inr (λh=> .inl h.2);have f2:e2=0\/e2=5:=d2.elim .inr (λh=> .inl h.2);have f3:e3=0\/e3=5:=d3.elim .inr (λh=> .inl h.2);have f4:e4=0\/e4=5:=d4.elim .inr (λh=> .inl h.2);clear d1 d2 d3 d4;have key:∀x1 x2 x3 x4:Int,(x1=0\/x1=5)->(x2=0\/x2=5)->(x3=0\/x3=5)->(x4=0\/x4=5)->¬(x1=0/\x2=0/\x3=0/\x4=0)->x1=5\/(x1=0/\x2=5)\/(x1=0/\x2=0/\x3=5)\/(x1=0/\x2=0/\x3=0/\x4=5):=λx1 x2 x3 x4 a b c d e=>by omega
  rcases key _ _ _ _ f1 f2 f3 f4 hz with h1|⟨h1,h2⟩|⟨h1,h2,h3⟩|⟨h1,h2,h3,h4⟩
  ·subst h1;repeat(refine s_ ?_;simp)
   refine Qa rfl (λ_=>?_) (λh=>by simp at h);repeat(refine s_ ?_;simp)
   refine pcL (R3) ?_;simp;repeat(refine s_ ?_;simp)
  ·subst h1 h2;repeat(refine s_ ?_;simp)
   refine Qa rfl (λ_=>?_) (λh=>by simp at h);repeat(refine s_ ?_;simp)
   refine pcL (R3) ?_;simp;repeat(refine s_ ?_;simp)
  ·subst h1 h2 h3;repeat(refine s_ ?_;simp)
   refine Qa rfl (λ_=>?_) (λh=>by simp at h);repeat(refine s_ ?_;simp)
   refine pcL (R3) ?_;simp;repeat(refine s_ ?_;simp)
  subst h1 h2 h3 h4;repeat(refine s_ ?_;simp)
  refine Qa rfl (λ_=>?_) (λh=>by simp at h);repeat(refine s_ ?_;simp)
  refine pcL (R3) ?_;simp;repeat(refine s_ ?_;simp)
 refine kpA [(4,.bool false),(6,.i 0),(8,.i eu),(10,.i em),(12,.i ec)] ?_;have zp:eu=0\/eu=5:=zb.elim (λh=> .inr (congrArg (·.2) h)) (λh=> .inl (congrArg (·.2) h.1));have key:∀x2 x3 x4:Int,(x2=0\/x2=5)->(x3=0\/x3=5)->(x4=0\/x4=5)->¬(x2=0/\x3=0/\x4=0)->x2=5\/(x2=0/\x3=5)\/(x2=0/\x3=0/\x4=5):=λx2 x3 x4 b c d e=>by omega
 have hk:=key _ _ _ zp z8 za hall;clear zb z1 z6 hall z8 za;clear hU hM hC;rcases hk with h2|⟨h2,h3⟩|⟨h2,h3,h4⟩
 ·subst h2;repeat(refine s_ ?_;simp)
  refine Qa rfl (λ_=>?_) (λh=>by simp at h);repeat(refine s_ ?_;simp)
  refine pcL (R3) ?_;simp;repeat(refine s_ ?_;simp)
 ·subst h2 h3;repeat(refine s_ ?_;simp)
  refine Qa rfl (λ_=>?_) (λh=>by simp at h);repeat(refine s_ ?_;simp)
  refine pcL (R3) ?_;simp;repeat(refine s_ ?_;simp)
 subst h2 h3 h4;repeat(refine s_ ?_;simp)
 refine Qa rfl (λ_=>?_) (λh=>by simp at h);repeat(refine s_ ?_;simp)
 refine pcL (R3) ?_;simp;repeat(refine s_ ?_;simp)
end
section
open Go Go.Proofs Go.RowKit Go.Proofs.YtjmkolhkojgjpaaGreatDoor
def laidOut:laidOutB prog=true:=by kernel_rfl
def own:ownKnob prog.godebug=none:=by kernel_rfl
def Kq{α:Type}{g:α->AV}{Q:α->Prop}:∀xs:List AV,(∀x∈xs,∃a,x=g a/\Q a)->∃l:List α,xs=l.map g/\∀a∈l,Q a
 |[],_=>⟨[],rfl,by simp⟩
 |x::xs,h=>by obtain⟨a,rfl,ha⟩:=h x (by simp);obtain⟨l,rfl,hl⟩:=Kq xs (λy hy=>h y (by simp[hy]));exact⟨a::l,rfl,by simpa using⟨ha,hl⟩⟩
def x14{d:Nat}{zs:List AV}(h:Shp T (d+1) 3 zs):∃n:Int,zs=[.i n]/\ -9223372036854775808<=n/\n<=9223372036854775807:=by simp only[Shp,T3,z0e]at h;obtain⟨n,rfl,h1,h2⟩:=h;exact⟨n,rfl,h1,h2⟩
def x26{d:Nat}{zs:List AV}(h:Shp T (d+1) 4 zs):∃b:Bool,zs=[.bool b]:=by simp only[Shp,T4,z0e]at h;exact h
def x2x{d:Nat}{xs:List AV}(h:Sv T d [] xs):xs=[]:=h
def g2u {l:List (String×DataW Unit)} {w:World} {name:String} {k:IntKind} {zs:List Int} {g:Nat} {t e:TypeId} {n:Nat} (h:laidMetH prog l w) (hl:l.filter (λx=>x.1==name)=[(name,Lib.tabData k zs)])
  (hg:prog.globalNamed name=some g) (z1:(prog.globals[g]?).map (·.type)=some t) (ht:prog.underlying t=some (.array n e)) (he:prog.underlying e=some (.int k)) (z6:prog.cellsOf e=1) (z7:prog.cellsOf t=n):
  g<w.heap.size/\∃t fr,w.heap[g]?=some (.cells (zs.map λz=>Value.int k z).toArray t fr):=by
 have h1:=h.filter (λx=>x.1==name);rw[hl]at h1;have h2:Lib.TabIs prog w name k zs:=Lib.tabIs_of_head hg z1 ht he z6 z7 h1;unfold Lib.TabIs World.var? at h2;rw[hg]at h2;simp only[Option.bind_some]at h2;cases ho:w.heap[g]? with
 |none=>rw[ho]at h2;simp at h2
 |some o=>rw[ho]at h2;refine⟨(Array.getElem?_eq_some_iff.1 ho).1,?_⟩;cases o<;>simp at h2;rename_i cs t fr;exact⟨t,fr,by rw[h2]⟩
end
section
open Go Go.Proofs Go.RowKit Go.Proofs.YtjmkolhkojgjpaaGreatDoor
def w3o{d:Nat}{zs:List AV}(h:Shp T (d+2) 144 zs):∃v:Iv,zs=(encIv v).cells:=by simp only[Shp,L1,T3,z0e,v2e,xJ,wG]at h;obtain⟨_,_,rfl,⟨a,rfl,ha⟩,_,_,rfl,⟨b,rfl,hb⟩,rfl⟩:=h;exact⟨⟨a,b⟩,rfl⟩
def c2z{d:Nat}{zs:List AV}(h:Shp T (d+3) 145 zs):∃l:List Iv,zs=[encL l]:=by
 rw[Shp,P6]at h;simp only[z0e]at h;obtain⟨ei,xs,he,rfl,hl,hx⟩:=h;rw[L1]at he;cases he;obtain⟨l,rfl,hq⟩:=Kq (g:=encIv) (Q:=λ_=>True) xs (λx z1=>by
  obtain⟨zs,rfl,hz⟩:=hx x z1;obtain⟨v,rfl⟩:=w3o (d:=d) hz;exact⟨v,rfl,trivial⟩)
 exact⟨l,rfl⟩
def d2a{d:Nat}{zs:List AV}(h:Shp T (d+4) 68 zs):∃p:Prd,zs=[.list (p.map encL)]:=by
 rw[Shp,T68]at h;simp only[z0e]at h;obtain⟨ei,xs,he,rfl,hl,hx⟩:=h;rw[P6]at he;cases he;obtain⟨l,rfl,hq⟩:=Kq (g:=encL) (Q:=λ_=>True) xs (λx z1=>by
  obtain⟨zs,rfl,hz⟩:=hx x z1;obtain⟨v,rfl⟩:=c2z (d:=d) hz;exact⟨v,rfl,trivial⟩)
 exact⟨l,rfl⟩
def g2a{d:Nat}{zs:List AV}(h:Shp T (d+5) 70 zs):∃p:Prd,zs=[.list (p.map encL)]:=by rw[Shp,T70]at h;simp only[z0e,v2e,xJ,wG]at h;obtain⟨_,_,rfl,h1,rfl⟩:=h;obtain⟨p,rfl⟩:=d2a (d:=d) h1;exact⟨p,rfl⟩
def j2v{d:Nat}{zs:List AV}(h:Shp T (d+6) 73 zs):∃m:Mv,zs=(encMv m).cells:=by rw[Shp,T73]at h;simp only[z0e,v2e,xJ,wG]at h;obtain⟨_,_,rfl,h1,_,_,rfl,h2,_,_,rfl,h3,rfl⟩:=h;obtain⟨a,rfl,_⟩:=x14 (d:=d+4) h1;obtain⟨b,rfl,_⟩:=x14 (d:=d+4) h2;obtain⟨p,rfl⟩:=g2a (d:=d) h3;exact⟨⟨a,b,p⟩,rfl⟩
def y2c{d:Nat}{zs:List AV}(h:Shp T (d+7) 23 zs):∃l:List Mv,zs=[.list (l.map encMv)]:=by
 rw[Shp,T23]at h;simp only[z0e]at h;obtain⟨ei,xs,he,rfl,hl,hx⟩:=h;rw[T73]at he;cases he;obtain⟨l,rfl,hq⟩:=Kq (g:=encMv) (Q:=λ_=>True) xs (λx z1=>by
  obtain⟨zs,rfl,hz⟩:=hx x z1;obtain⟨v,rfl⟩:=j2v (d:=d) hz;exact⟨v,rfl,trivial⟩)
 exact⟨l,rfl⟩
def u2d{d:Nat}{zs:List AV}(h:Shp T (d+2) 22 zs):∃l:List Bool,zs=[.list (l.map .bool)]:=by
 rw[Shp,T22]at h;simp only[z0e]at h;obtain⟨ei,xs,he,rfl,hl,hx⟩:=h;rw[T4]at he;cases he;obtain⟨l,rfl,hq⟩:=Kq (g:=AV.bool) (Q:=λ_=>True) xs (λx z1=>by
  obtain⟨zs,rfl,hz⟩:=hx x z1;obtain⟨v,rfl⟩:=x26 (d:=d) hz;exact⟨v,rfl,trivial⟩)
 exact⟨l,rfl⟩
def q3s{d:Nat}{zs:List AV}(h:Shp T (d+8) 25 zs):∃a:Aut,zs=(encA a).cells:=by rw[Shp,T25]at h;simp only[z0e,v2e,xJ,wG]at h;obtain⟨_,_,rfl,h1,_,_,rfl,h2,_,_,rfl,h3,rfl⟩:=h;obtain⟨t,rfl,_⟩:=x14 (d:=d+6) h1;obtain⟨f,rfl⟩:=u2d (d:=d+5) h2;obtain⟨m,rfl⟩:=y2c (d:=d) h3;exact⟨⟨t,f,m⟩,rfl⟩
def z2b{d:Nat}{ts:List Nat}{xs:List AV}(h:Sv T (d+8) (25::ts) xs):∃(a:Aut) (r:List AV),xs=encA a::r/\Sv T (d+8) ts r:=by obtain⟨i,zs,r,hi,rfl,h1,h⟩:=h;rw[T25]at hi;cases hi;obtain⟨a,rfl⟩:=q3s (d:=d) h1;exact⟨a,r,rfl,h⟩
def f2n {l:List (String×DataW Unit)} {w:World} (h:laidMetH prog l w) (hl:l.filter (λx=>x.1== "internal/strconv.uint64pow10")=[("internal/strconv.uint64pow10",Lib.tabData .u64 Lib.pow10Tab)]):EOK prog w (·<w.heap.size):=λg pr hm=>by
 have e:=zP.1 hm
 cases e
 obtain⟨h1,t,fr,h2⟩:=g2u (t:=355) (e:=258) (n:=20) h hl (by kernel_rfl) (by kernel_rfl) (by kernel_rfl) (by kernel_rfl) (by kernel_rfl) (by kernel_rfl)
 exact⟨h1,_,t,fr,rfl,h2⟩
end
end Go.Abs
