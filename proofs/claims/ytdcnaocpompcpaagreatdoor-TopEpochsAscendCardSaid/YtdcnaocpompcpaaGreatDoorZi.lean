/- Part Zi of the proof: steps on the way to the last part. No condition. -/
import Derived.Test.YtdcnaocpompcpaaGreatDoorZh
import Derived.Test.YtdcnaocpompcpaaGreatDoorZe
import Derived.Test.YtdcnaocpompcpaaGreatDoorZb
import Derived.Test.YtdcnaocpompcpaaGreatDoorZc
import Derived.Lay
import Derived.LaidSub
import Derived.Deep.DeepWitnessRowRef
import Derived.Test.YtdcnaocpompcpaaGreatDoorCards
import Derived.Test.YtdcnaocpompcpaaGreatDoorTie
import Derived.Lib.LaidTab
import Derived.Test.YtdcnaocpompcpaaGreatDoorZg
import Derived.Shelf.Vars
set_option linter.all false
open Int renaming tmod_eq_emod_of_nonneg->vD,eq_ofNat_of_zero_le->xR
open List renaming map_nil->yM,map_cons->z_,getElem?_append_right->zF,replicate->zH,getElem?_eq_getElem->zG,mem_of_getElem?->zE,getElem?_map->zU,getElem_eq_iff->yR,getElem?_eq_some_iff->zD,mem_cons->y_
open Nat renaming zero_le->yO
open Option renaming bind_some->wq
open Array renaming getElem?_eq_some_iff->xl
set_option linter.unusedSimpArgs false
set_option maxRecDepth 100000
open Go.Proofs.Tryz
namespace Go.Abs
open Go Go.Proofs
section
attribute [local irreducible] Qt Ra Q5 U8 R2
def v1h(W:Nat)(u:Nat×List AObj):Prop:=u.1<=4/\u.2[0]?=some (.vars (cCr (X4 W u.1)))/\u.2[1]?=some (.vars [.list [],.i 65536])/\WfC 1 W (X4 W u.1)
def NQ(H:List AObj)(t:Nat)(new:List AV)(ks:List (Nat×AV))(S':AS):Prop:=∃q,W6 S'.sl ((t,.vptr q 0)::ks)/\HX H S'.hp/\H.length<=q/\S'.hp[q]?=some (.vars new)
def KQ(K:List AObj)(ks:List (Nat×AV))(S':AS):Prop:=K=S'.hp/\W6 S'.sl ks
def OpI(W:Nat)(K:List AObj)(u:Nat×List AObj):Prop:=u.1<=W/\HX K u.2
def EpI(W A len:Nat)(u:Nat×List AObj):Prop:=u.1<=len/\∃(dn:List Nat) (D:Nat) (d:Disk) (σ:Int->Snp),dn.length=W/\(∀v∈dn,D<=v/\v<=4)/\WfC 1 W (Ty dn D)/\DJ d D D σ/\u.2[0]?=some (.vars (cCr (Ty dn D)))/\u.2[1]?=some (.vars [.list (d.files.map encFl),.i d.space])/\u.2[A]?=some (.arr 3 1 (dn.map encD4))
set_option maxHeartbeats 4000000 in
def X3(y9:x0o)(x:Nat)(hx:x<256)(ks:List Nat)(hk:∀k∈ks,k<256):PC prog 4 [encU x,.list (ks.map encU)] (λr=>r= .bool true):=by
 have ya:=N6 (λh cs yb=>y9 h cs yb);obtain⟨W,hW,yw,yx⟩:∃W:Nat,IntKind.i64.wrap (1+IntKind.i64.wrap ((x:Int).tmod 3))=W/\1<=W/\W<=3:=⟨1+x % 3,by rw[vD (by omega),wrap_i64 ((x:Int) % 3) (by omega) (by omega),wrap_i64 _ (by omega) (by omega)];omega,by omega,by omega⟩
 refine pcB func4 results4 ntmps4 ?_;simp only[Qf];repeat(refine s_ ?_;simp)
 refine pcL (ya) ?_;simp;repeat(refine s_ ?_;simp)
 refine Qh rfl ?_;simp;repeat(refine s_ ?_;simp[hW])
 refine Qb rfl (λzg=>?_) (λzh=>?_)
 ·repeat(refine s_ ?_;simp)
 simp at zh;have hB:=Vp;simp only[encCr,yM]at hB;repeat(refine s_ ?_;simp)
 refine pcL (hB) ?_;simp;repeat(refine s_ ?_;simp)
 refine Sz 1 (xs:=[.nils,.i 65536]) (by simp) (by simp) ?_;simp;refine Q1 λH hH=>?_;have e0:H[0]?=some (.vars (cCr (X4 W 0))):=by rw[hH];rfl
 have e1:H[1]?=some (.vars [.list [],.i 65536]):=by rw[hH];rfl
 clear hH;refine Qk (Qg (sl':=[(1,.list (ks.map encU)),(5,.i W),(6,.vptr 0 0),(7,.vptr 1 0),(38,.i (0:Nat))]) ?_ (by simp));refine Qp (P:=prog) (F:=λ(u:Nat×List AObj)=>⟨[(1,.list (ks.map encU)),(5,.i W),(6,.vptr 0 0),(7,.vptr 1 0),(38,.i u.1)],u.2⟩)
  (v1h W) (λu=>4 - u.1) ?_ (0,H) ⟨yO _,e0,e1,j0s 1 W (by omega) (by omega) (by omega) (by omega) 0 (by omega) (by omega)⟩
 clear e0 e1;rintro⟨j,G⟩ ⟨hj,g0,g1,w⟩ ih;simp only at hj g0 g1 w ih |-;repeat(refine s_ ?_;simp)
 refine Qb rfl (λzg=>?_) (λzh=>?_)
 ·have z1:j<4:=by simp at zg;omega
  have hw:=wz j (by omega);have hT:=Gv w (by simp[X4];omega) (by simp only[X4];omega) [rdJ j] rfl;have hw1:=y0z w (by simp[X4];omega) (by simp only[X4];omega) (rs:=[rdJ j]) rfl;rw[x0w]at hT hw1;have yc:(X4 W j).next=j+1:=rfl;rw[yc]at hT;simp only[encCr,z_,yM,avRdr,rdJ,g0m]at hT;simp only[cCr]at g0;repeat(refine s_ ?_;simp[g0])
  have hL:=Ql g0;refine Ip G.length (e:=52) (c:=6) (xs:=[.agg [.i 0,.i j,.i 0,.nils,.nils,.i 0]]) (by simp) ?_;simp;refine Ws G.length (e:=52) (c:=6) (xs:=[.agg [.i 0,.i j,.i 0,.list [],.list [],.i 0]]) (by simp) ?_;simp;refine pcL (hT) ?_;simp;repeat(refine s_ ?_;simp[hw])
  refine Q1 λE hE=>?_;have e0:E[0]?=some (.vars (cCr (X4 W j))):=by rw[hE];exact Qc g0 _
  have e1:E[1]?=some (.vars [.list [],.i 65536]):=by rw[hE];exact Qc g1 _
  have e9:E[G.length+1]?=some (.vars (cCr (X4 W (j+1)))):=by rw[hE,zF (by omega)];simp[cCr]
  clear hE;refine Qh rfl ?_;simp[hw];simp only[cCr]at e0 e9;repeat(refine s_ ?_;simp[e9,e0,hw])
  have eL:=Ql e0;refine Qg (sl':=[(1,.list (ks.map encU)),(5,.i W),(6,.vptr 0 0),(7,.vptr 1 0),(38,.i (j+1:Nat))]) ?_ (by simp);exact ih (j+1,_) ⟨by simp only;omega,Qe e0 _,by simp only;rw[List.getElem?_set_ne (by omega)];exact e1,hw1⟩ (by simp only;omega)
 have yd:j=4:=by simp at zh;omega
 subst yd;rw[j0w]at g0 w;repeat(refine s_ ?_;simp)
 refine Yj tOk rfl rfl rfl T23 rfl T3 rfl rfl rfl (n:=W) (by simp;omega) (by unfold maxLen;omega) (.i 0) rfl ?_;simp;repeat(refine s_ ?_;simp)
 have yy:=Ql g1;refine Q1 λE hE=>?_;have e0:E[0]?=some (.vars (cCr (Ty (zH W 0) 0))):=by rw[hE];exact Qc g0 _
 have e1:E[1]?=some (.vars [.list [],.i 65536]):=by rw[hE];exact Qc g1 _
 have e2:E[G.length]?=some (.arr 3 1 ((zH W 0).map encD4)):=by rw[hE,zF (by omega)];simp
 clear hE;generalize G.length=A at *;refine Qk (Qg (sl':=[(1,.list (ks.map encU)),(5,.i W),(6,.vptr 0 0),(7,.vptr 1 0),(12,.sl A 1 0 W),(63,.list (ks.map encU)),(64,.i ks.length),(65,.i (0:Nat))]) ?_ (by simp))
 refine Qp (P:=prog) (F:=λ(u:Nat×List AObj)=>⟨[(1,.list (ks.map encU)),(5,.i W),(6,.vptr 0 0),(7,.vptr 1 0),(12,.sl A 1 0 W),(63,.list (ks.map encU)),(64,.i ks.length),(65,.i u.1)],u.2⟩)
  (EpI W A ks.length) (λu=>ks.length - u.1) ?_ (0,E) ⟨yO _,zH W 0,0,⟨[],65536⟩,λ_=>Uy,by simp,λv hv=>by rw[(List.mem_replicate.1 hv).2];omega,w,DJ.begin _ _,e0,e1,e2⟩
 clear e0 e1 e2 g0 g1 w ih;rintro⟨j,G⟩ ⟨hj,dn,D,d,σ,zq,zi,w,dj,g0,g1,g2⟩ ih;simp only at hj g0 g1 g2 ih |-;repeat(refine s_ ?_;simp)
 refine Qb rfl (λzg=>?_) (λzh=>?_)
 ·have z1:j<ks.length:=by simpa using zg
  have hw:=wz j (by omega);obtain⟨k,zr⟩:∃k,ks[j]?=some k:=⟨ks[j],zG z1⟩
  have yz:=hk k (zE zr);have hg:(ks.map encU)[j]?=some (encU k):=by rw[zU,zr];rfl
  have hh:∀q,(ks.map encU)[j]'q=encU k:=λq=>(yR q).2 hg;simp only[encU]at hg hh;have zz:IntKind.i64.wrap (k:Int)=k:=wrap_i64 _ (by omega) (by omega);have ye:¬W=0:=by omega
  have zc:(k:Int).tmod W=(k % W:Nat):=by rw[vD (by omega)];omega
  obtain⟨wk,yf,zt⟩:∃wk,k % W=wk/\wk<W:=⟨_,rfl,Nat.mod_lt _ (by omega)⟩
  rw[yf]at zc;repeat(refine s_ ?_;simp[z1,hg,hh,zr,zz,ye,zc])
  obtain⟨v,hv⟩:∃v,dn[wk]?=some v:=⟨dn[wk],zG (by omega)⟩
  have zo:=(zD.1 hv).1;have zp:=(zD.1 hv).2;have x0:=zi v (zE hv);have w1:=wz v (by omega);have w2:IntKind.i64.wrap (100 * (wk:Int))=100 * wk:=wrap_i64 _ (by omega) (by omega);have w3:IntKind.i64.wrap (100 * (wk:Int)+v)=100 * wk+v:=wrap_i64 _ (by omega) (by omega);obtain⟨c2,code,hR,zj⟩:=v1a zi w hv;simp only[encCr,avOpr,z_,yM,encI]at hR;simp only[cCr]at g0;have x7:=Ql g2;have y0:¬A=G.length:=by omega
  have y5:¬A=G.length+1:=by omega
  clear hB hg hh zz zc hW;refine Wz (P:=prog) tOk mixed [21] (.val 0 (.val 1 (.val 2 (.val 3 (.val 4 (.val 5 (.val 6 (.val 7 (.val 8 (.val 9 (.val 10 (.val 11 (.val 12 (.val 13 (.two 14 (.val 15 (.two 16 (.val 17 (.val 18 (.val 19 (.one 20 (.one 21 (.val 22 (.done))))))) 20 (.one 16 (.val 17 (.val 18 (.val 19 (.one 21 (.val 22 (.done))))))))) 20 (.one 14 (.val 15 (.one 16 (.val 17 (.val 18 (.val 19 (.one 21 (.val 22 (.done)))))))))))))))))))))))) (NQ G 16 (cCr c2) [(1,.list (ks.map encU)),(5,.i W),(6,.vptr 0 0),(7,.vptr 1 0),(12,.sl A 1 0 W),(15,.i wk),(17,.i code),(63,.list (ks.map encU)),(64,.i ks.length),(65,.i j)]) rfl (by kernel_rfl) ?_ ?_
  ·simp[g0,g1,g2,hv,zo,zp,w1,w2,w3,zt]
   repeat' (first
    |refine And.intro ?_ ?_
    |(refine Ws G.length (e:=3) (c:=1) (xs:=[.i (100 * (wk:Int)+v)]) (by simp) ?_;simp;refine pcL hR ?_;simp)
    |(refine Ws (G.length+1) (e:=3) (c:=1) (xs:=[.i (100 * (wk:Int)+v)]) (by simp) ?_;simp;refine pcL hR ?_;simp)
    |exact⟨_,⟨rfl,by simp[W6,y0,y5]⟩,(HX.refl G).app _,by omega,by simp[cCr]⟩)
  rintro⟨x8,E⟩ ⟨q,k1,k2,k3,k4⟩;simp only at k1 k2 k3 k4;simp;refine Qo ?_ k1;have e0:=k2 _ _ g0;have e1:=k2 _ _ g1;have e2:=k2 _ _ g2;simp only[cCr]at k4;repeat(refine s_ ?_;simp[k4,e0,e1,e2,hv,zo,zp,zt])
  rcases zj with⟨yg,rfl,rfl,wc⟩|⟨rfl,rfl⟩
  ·refine Qh rfl ?_;have zu:(v:Int)<4:=by omega
   simp[zu,yg];repeat(refine s_ ?_;simp)
   refine Qh rfl ?_;simp;have y6:A≠0:=by omega
   have yh:A≠1:=by omega
   have f1:=Qe e0 (.vars (cCr (Ty (dn.set wk (v+1)) D)));have f2:=Qa (Ne.symm y6) e2 (.vars (cCr (Ty (dn.set wk (v+1)) D)));have f3:=Qa y6 f1 (.arr 3 1 ((dn.map encD4).set wk (.int .i64 ((v:Int)+1))));simp only[cCr]at f1 f2 f3;repeat(refine s_ ?_;simp[k4,e0,e1,e2,hv,zo,zp,zt,w1,f1,f2,f3])
   refine Zy λF hF=>?_;have Fx:∀i o,i≠0->i≠A->E[i]?=some o->F[i]?=some o:=λi o h1 h2 h=>by rw[hF];exact Qa h2.symm (Qa h1.symm h _) _
   have F0:F[0]?=some (.vars (cCr (Ty (dn.set wk (v+1)) D))):=by rw[hF];exact f3
   have F1:=Fx 1 _ (by omega) (Ne.symm yh) e1;have F2:F[A]?=some (.arr 3 1 ((dn.set wk (v+1)).map encD4)):=by rw[hF,List.map_set];exact Qe f2 _
   clear hF f1 f2 f3 k4 e0 e1 e2 k1 k2 k3 hR hv zp Fx g0 g1 g2 y0 y5 w2 w3;have z8:(dn.set wk (v+1)).length=W:=by rw[List.length_set];exact zq
   have zd:∀u∈dn.set wk (v+1),D<=u/\u<=4:=λu hu=>by
    rcases List.mem_or_eq_of_mem_set hu with h|h
    ·exact zi u h
    omega
   have zk:dn.set wk (v+1)≠[]:=λh=>by rw[h]at z8;simp at z8;omega
   clear zi zq w zo;generalize dn.set wk (v+1)=dm at *
   have za:=λH h=>w18 dm zk (by omega) H A h;simp only[z8]at za;have x9:=Ql F2;simp only[cCr]at F0;by_cases hall:∀u∈dm,D<u
   ·have zv:D<4:=by obtain⟨u,hu⟩:=List.exists_mem_of_ne_nil dm zk;have:=hall u hu;have:=zd u hu;omega
    obtain⟨RL,zw⟩:∃RL,([rdJ D].map avRdr)=RL:=⟨_,rfl⟩
    obtain⟨OL,zl⟩:∃OL,(((msE dm D).map opJ).map avOpr)=OL:=⟨_,rfl⟩
    have y7:OL.length=W:=by rw[<-zl];simp[J9,z8]
    have yi:∀i,i<W->OL[i]?=some (.agg [.list [.i (100 * (i:Int)+D)],.list []]):=λi hi=>by rw[<-zl,zU,zU,x0y _ _ _ (by omega)];simp[opJ]
    have zm:=c0z wc zv hall;have js:=z1t (dn:=dm) (D:=D) (by omega) zv;have zx:=Bk d (snJ (D+1) D (msE dm D)) js.j js.enc.2.2 (by rw[js.num];unfold i64;omega);obtain⟨x2,x3,x4⟩:=dj.save (by omega) js (by omega) (by omega);rw[x3]at zx;obtain⟨zn,yj⟩:=u1v wc zv hall;have zy:=k0l x2 (λhh=>w19 hh);obtain⟨yk,yl⟩:=x4.list (by omega);rw[yk]at zy;simp only[encCr,avSnp,snJ,zw,zl]at zm zn;simp only[encD,avSnp,snJ,zw,zl]at zx zy;clear zl zw;refine pcL (zm) ?_;simp;repeat(refine s_ ?_;simp)
    refine Q1 λK hK=>?_;have K0:K[0]?=some (.vars [.i (Ty dm D).next,.list ((Ty dm D).atts.map encAt),.i D]):=by rw[hK];exact Qc F0 _
    have K1:K[1]?=some (.vars [.list (d.files.map encFl),.i d.space]):=by rw[hK];exact Qc F1 _
    have K2:K[A]?=some (.arr 3 1 (dm.map encD4)):=by rw[hK];exact Qc F2 _
    have K3:K[F.length]?=some (.vars [.i ((D:Int)+1),.list RL,.list OL]):=by rw[hK,zF (by omega)];simp
    clear hK;generalize F.length=B at *;refine Wz (P:=prog) tOk mixed [5] (.val 0 (.val 1 (.val 2 (.val 3 (.val 4 (.val 6 (.two 5 (.val 7 (.val 8 (.val 9 (.val 10 (.done))))) 7 (.one 5 (.val 8 (.val 9 (.val 10 (.done)))))))))))) (KQ K [(1,.list (ks.map encU)),(5,.i W),(6,.vptr 0 0),(7,.vptr 1 0),(12,.sl A 1 0 W),(17,.i 0),(18,.vptr B 0),(19,.bool true),(63,.list (ks.map encU)),(64,.i ks.length),(65,.i j),(126,.bool false)]) rfl (by kernel_rfl) ?_ ?_
    ·simp[K0];refine⟨?_,?_⟩
     ·refine Qd rfl rfl (za K K2) rfl ?_;rintro r H' ⟨⟨m,rfl,hm,zb⟩,rfl⟩;have ze:D<m:=hall m hm;simp[K0,ze];exact⟨rfl,by simp[W6]⟩
     refine Qd rfl rfl (za K K2) rfl ?_;rintro r H' ⟨⟨m,rfl,hm,zb⟩,rfl⟩;have ze:D<m:=hall m hm;simp[K0,ze];exact⟨rfl,by simp[W6]⟩
    rintro⟨ym,Z⟩ ⟨g1,g2⟩;simp only at g1 g2;subst g1;simp;refine Qo ?_ g2;repeat(refine s_ ?_;simp)
    refine Qh rfl ?_;simp;repeat(refine s_ ?_;simp)
    refine Qh rfl ?_;simp;have w4:=wz D (by omega);repeat(refine s_ ?_;simp[K0,K3,y7,w4])
    refine Qh rfl ?_;simp;repeat(refine s_ ?_;simp[K3,y7])
    refine Qk (Qg (sl':=[(1,.list (ks.map encU)),(5,.i W),(6,.vptr 0 0),(7,.vptr 1 0),(12,.sl A 1 0 W),(18,.vptr B 0),(63,.list (ks.map encU)),(64,.i ks.length),(65,.i j),(143,.list OL),(144,.i W),(145,.i (0:Nat))]) ?_ (by simp));refine Qp (P:=prog) (F:=λ(u:Nat×List AObj)=>⟨[(1,.list (ks.map encU)),(5,.i W),(6,.vptr 0 0),(7,.vptr 1 0),(12,.sl A 1 0 W),(18,.vptr B 0),(63,.list (ks.map encU)),(64,.i ks.length),(65,.i j),(143,.list OL),(144,.i W),(145,.i u.1)],u.2⟩)
     (OpI W K) (λu=>W - u.1) ?_ (0,K) ⟨yO _,HX.refl K⟩
    rintro⟨t,L⟩ ⟨ht,zf⟩ ih2;simp only at ht zf ih2 |-;have L0:=zf _ _ K0;have L1:=zf _ _ K1;have L2:=zf _ _ K2;have L3:=zf _ _ K3;repeat(refine s_ ?_;simp)
    refine Qb rfl (λzg=>?_) (λzh=>?_)
    ·have z1:t<W:=by simpa using zg
     have yn:=wz t (by omega);have yo:IntKind.i64.wrap (100 * (t:Int))=100 * t:=wrap_i64 _ (by omega) (by omega);have yp:IntKind.i64.wrap (100 * (t:Int)+(D+1))=100 * t+(D+1):=wrap_i64 _ (by omega) (by omega);have yq:IntKind.i64.wrap (100 * (t:Int)+(D+1) - 1)=100 * t+D:=by rw[wrap_i64 _ (by omega) (by omega)];omega
     have hg:=yi t z1;have hh:∀q,OL[t]'q= .agg [.list [.i (100 * (t:Int)+D)],.list []]:=λq=>(yR q).2 hg;have yr:t<OL.length:=by omega
     have LB:=Ql L3;have y8:=u1a [100 * (t:Int)+D] [100 * (t:Int)+D];simp only[z_,yM,encI,decide_true]at y8;have LX:=Qc L3 [.vars [.list [.i (100 * (t:Int)+D)],.list []]];repeat(refine s_ ?_;simp[z1,hg,hh,yr,LX,yo,yp,yq])
     refine Ws (L.length+1) (e:=3) (c:=1) (xs:=[.i (100 * (t:Int)+D)]) (by simp) ?_;have xa:=Ql L2;have yt:¬A=L.length+1:=by omega
     simp[yt];refine pcL (y8) ?_;simp;repeat(refine s_ ?_;simp)
     refine Qh rfl ?_;simp;repeat(refine s_ ?_;simp[yn])
     refine Qg (sl':=[(1,.list (ks.map encU)),(5,.i W),(6,.vptr 0 0),(7,.vptr 1 0),(12,.sl A 1 0 W),(18,.vptr B 0),(63,.list (ks.map encU)),(64,.i ks.length),(65,.i j),(143,.list OL),(144,.i W),(145,.i (t+1:Nat))]) ?_ (by simp);exact ih2 (t+1,_) ⟨by simp only;omega,zf.app _⟩ (by simp only;omega)
    clear ih2 K0 K1 K2 K3;repeat(refine s_ ?_;simp[L1,L3])
    refine pcL (zx) ?_;simp;refine Q1 λM hM=>?_;have M0:M[0]?=some (.vars [.i (Ty dm D).next,.list ((Ty dm D).atts.map encAt),.i D]):=by rw[hM];exact Qc L0 _
    have M2:M[A]?=some (.arr 3 1 (dm.map encD4)):=by rw[hM];exact Qc L2 _
    have M3:M[B]?=some (.vars [.i ((D:Int)+1),.list RL,.list OL]):=by rw[hM];exact Qc L3 _
    have M1:M[1]?=some (.vars [.list (d.files.map encFl),.i d.space]):=by rw[hM];exact Qc L1 _
    have M4:M[L.length]?=some (.vars [.list (x2.files.map encFl),.i x2.space]):=by rw[hM,zF (by omega)];simp
    have xb:=Ql L3;clear hM L0 L1 L2 L3 zf;generalize L.length=B2 at *
    repeat(refine s_ ?_;simp[M0,M3])
    refine pcL (zn) ?_;simp;refine Q1 λO hO=>?_;have O0:O[0]?=some (.vars [.i (Ty dm D).next,.list ((Ty dm D).atts.map encAt),.i D]):=by rw[hO];exact Qc M0 _
    have O2:O[A]?=some (.arr 3 1 (dm.map encD4)):=by rw[hO];exact Qc M2 _
    have O3:O[B]?=some (.vars [.i ((D:Int)+1),.list RL,.list OL]):=by rw[hO];exact Qc M3 _
    have O1:O[1]?=some (.vars [.list (d.files.map encFl),.i d.space]):=by rw[hO];exact Qc M1 _
    have O4:O[B2]?=some (.vars [.list (x2.files.map encFl),.i x2.space]):=by rw[hO];exact Qc M4 _
    have O5:O[M.length]?=some (.vars (cCr (Ty dm (D+1)))):=by rw[hO,zF (by omega)];simp[cCr]
    clear hO M0 M1 M2 M3 M4;generalize M.length=B3 at *;simp only[cCr]at O5
    repeat(refine s_ ?_;simp[O4])
    refine pcL (zy) ?_;simp;repeat(refine s_ ?_;simp[O3,O5,yl])
    refine Qh rfl ?_;have yu:(Ty dm (D+1)).dur=(D:Int)+1:=by simp[Ty]
    simp[yu];repeat(refine s_ ?_;simp)
    have P1:=Qa (by omega:(0:Nat)≠B2) O4 (.vars (cCr (Ty dm (D+1))));simp only[cCr]at P1;refine Wz (P:=prog) tOk mixed [2,3] (.val 0 (.two 1 (.one 2 (.one 3 (.done))) 2 (.val 1 (.one 3 (.done))))) (KQ ((O.set 0 (.vars (cCr (Ty dm (D+1))))).set 1 (.vars [.list (x2.files.map encFl),.i x2.space])) [(1,.list (ks.map encU)),(5,.i W),(6,.vptr 0 0),(7,.vptr 1 0),(12,.sl A 1 0 W),(63,.list (ks.map encU)),(64,.i ks.length),(65,.i j)]) rfl (by kernel_rfl) ?_ ?_
    ·simp[O4,O5,O0,O1,P1,cCr]
     repeat' (first
      |refine And.intro ?_ ?_
      |rfl
      |trivial
      |(simp[W6];done))
    rintro⟨xc,Z⟩ ⟨g1,g2⟩;simp only at g1 g2;subst g1;simp;refine Qo ?_ g2;repeat(refine s_ ?_;simp[hw])
    refine Qg (sl':=[(1,.list (ks.map encU)),(5,.i W),(6,.vptr 0 0),(7,.vptr 1 0),(12,.sl A 1 0 W),(63,.list (ks.map encU)),(64,.i ks.length),(65,.i (j+1:Nat))]) ?_ (by simp);have yv:((D+1:Nat):Int)=(D:Int)+1:=by omega
    obtain⟨σ2,x5⟩:∃s,DJ x2 (D+1) ((D+1:Nat):Int) s:=⟨_,by rw[yv];exact x4⟩
    refine ih (j+1,_) ⟨by simp only;omega,dm,D+1,x2,σ2,z8,λu hu=>?_,yj,x5,?_,?_,?_⟩ (by simp only;omega)
    ·have:=hall u hu;have:=zd u hu;omega
    ·exact Qa (by omega) (Qe O0 _) _
    ·exact Qe (Qa (by omega) O1 _) _
    exact Qa (by omega) (Qa (by omega) O2 _) _
   have zm:=v09 wc hall;simp only[encCr]at zm;refine pcL (zm) ?_;simp;repeat(refine s_ ?_;simp)
   refine Q1 λK hK=>?_;have K0:K[0]?=some (.vars [.i (Ty dm D).next,.list ((Ty dm D).atts.map encAt),.i D]):=by rw[hK];exact Qc F0 _
   have K1:K[1]?=some (.vars [.list (d.files.map encFl),.i d.space]):=by rw[hK];exact Qc F1 _
   have K2:K[A]?=some (.arr 3 1 (dm.map encD4)):=by rw[hK];exact Qc F2 _
   clear hK;generalize F.length=B at *;refine Wz (P:=prog) tOk mixed [5] (.val 0 (.val 1 (.val 2 (.val 3 (.val 4 (.val 6 (.two 5 (.val 7 (.val 8 (.val 9 (.val 10 (.done))))) 7 (.one 5 (.val 8 (.val 9 (.val 10 (.done)))))))))))) (KQ K [(1,.list (ks.map encU)),(5,.i W),(6,.vptr 0 0),(7,.vptr 1 0),(12,.sl A 1 0 W),(17,.i 0),(18,.vptr B 0),(19,.bool false),(63,.list (ks.map encU)),(64,.i ks.length),(65,.i j),(126,.bool false)]) rfl (by kernel_rfl) ?_ ?_
   ·simp[K0];refine⟨?_,?_⟩
    ·refine Qd rfl rfl (za K K2) rfl ?_;rintro r H' ⟨⟨m,rfl,hm,zb⟩,rfl⟩;have ze:¬D<m:=λh=>hall λu hu=>by have:=zb u hu;omega
     simp[K0,ze];exact⟨rfl,by simp[W6]⟩
    refine Qd rfl rfl (za K K2) rfl ?_;rintro r H' ⟨⟨m,rfl,hm,zb⟩,rfl⟩;have ze:¬D<m:=λh=>hall λu hu=>by have:=zb u hu;omega
    simp[K0,ze];exact⟨rfl,by simp[W6]⟩
   rintro⟨ym,Z⟩ ⟨g1,g2⟩;simp only at g1 g2;subst g1;simp;refine Qo ?_ g2;repeat(refine s_ ?_;simp)
   refine Qh rfl ?_;simp;repeat(refine s_ ?_;simp)
   refine Qh rfl ?_;simp;repeat(refine s_ ?_;simp[hw])
   refine Qg (sl':=[(1,.list (ks.map encU)),(5,.i W),(6,.vptr 0 0),(7,.vptr 1 0),(12,.sl A 1 0 W),(63,.list (ks.map encU)),(64,.i ks.length),(65,.i (j+1:Nat))]) ?_ (by simp);exact ih (j+1,K) ⟨by simp only;omega,dm,D,d,σ,z8,zd,wc,dj,K0,K1,K2⟩ (by simp only;omega)
  refine Qh rfl ?_;simp;repeat(refine s_ ?_;simp)
  refine Qh rfl ?_;simp;repeat(refine s_ ?_;simp[hw])
  refine Qg (sl':=[(1,.list (ks.map encU)),(5,.i W),(6,.vptr 0 0),(7,.vptr 1 0),(12,.sl A 1 0 W),(63,.list (ks.map encU)),(64,.i ks.length),(65,.i (j+1:Nat))]) ?_ (by simp);exact ih (j+1,E) ⟨by simp only;omega,dn,D,d,σ,zq,zi,w,dj,e0,e1,e2⟩ (by simp only;omega)
 repeat(refine s_ ?_;simp)
end
def Xe(x:Nat)(hx:x<256)(ks:List Nat)(hk:∀k∈ks,k<256):PC prog 4 [encU x,.list (ks.map encU)] (λr=>r= .bool true):=
 X3 L8 x hx ks hk
section
open Go.RowKit Go.Proofs.YtdcnaocpompcpaaGreatDoor
def laidOut:laidOutB prog=true:=by kernel_rfl
def own:ownKnob prog.godebug=none:=by kernel_rfl
def x0k{α:Type}{g:α->AV}{Q:α->Prop}:∀xs:List AV,(∀x∈xs,∃a,x=g a/\Q a)->∃l:List α,xs=l.map g/\∀a∈l,Q a
 |[],_=>⟨[],rfl,by simp⟩
 |x::xs,h=>by obtain⟨a,rfl,ha⟩:=h x (by simp);obtain⟨l,rfl,hl⟩:=x0k xs (λy hy=>h y (by simp[hy]));exact⟨a::l,rfl,by simpa using⟨ha,hl⟩⟩
def c0n{d:Nat}{xs:List AV}(h:Uj T d [] xs):xs=[]:=h
def z1r {l:List (String×DataW Unit)} {w:World} {name:String} {k:IntKind} {zs:List Int} {g:Nat} {t e:TypeId} {n:Nat} (h:laidMetH prog l w) (hl:l.filter (λx=>x.1==name)=[(name,Lib.tabData k zs)])
  (hg:prog.globalNamed name=some g) (z1:(prog.globals[g]?).map (·.type)=some t) (ht:prog.underlying t=some (.array n e)) (he:prog.underlying e=some (.int k)) (z8:prog.cellsOf e=1) (za:prog.cellsOf t=n):
  g<w.heap.size/\∃t fr,w.heap[g]?=some (.cells (zs.map λz=>Value.int k z).toArray t fr):=by
 have h1:=h.filter (λx=>x.1==name);rw[hl]at h1;have h2:Lib.TabIs prog w name k zs:=Lib.tabIs_of_head hg z1 ht he z8 za h1;unfold Lib.TabIs World.var? at h2;rw[hg]at h2;simp only[wq]at h2;cases ho:w.heap[g]? with
 |none=>rw[ho]at h2;simp at h2
 |some o=>rw[ho]at h2;refine⟨(xl.1 ho).1,?_⟩;cases o<;>simp at h2;rename_i cs t fr;exact⟨t,fr,by rw[h2]⟩
end
section
open Go.RowKit Go.Proofs.YtdcnaocpompcpaaGreatDoor
def Nt {H:Type} {enc:TypeId×Value->H} {P:Program} {w:World} {base:Nat} {sp:Nat->Bool} {held:Bool} {fuel:Nat} {t:TypeId} {ms:Array (String×TypeId)} {cs:List Value} {x:DataW H×List MemPlace}
  (ht:P.underlying t=some (.interface ms)) (h:DataW.trod enc P w base sp held fuel t cs=some x):∃ev,cs=[ev]/\(ev= .nilIface\/∃te pe,ev= .iface te pe):=by
 cases fuel with
 |zero=>simp[DataW.trod]at h
 |succ n=>unfold DataW.trod at h;rw[ht]at h;split at h<;>simp_all
def g0p {l:List (String×DataW Unit)} {w:World} {name:String} {D:DataW Unit} {g:Nat} {t:TypeId} {ms:Array (String×TypeId)} (h:laidMetH prog l w) (hl:l.filter (λx=>x.1==name)=[(name,D)]) (hD:D.handleName? =none)
  (hg:prog.globalNamed name=some g) (z8:(prog.globals[g]?).map (·.type)=some t) (ht:prog.underlying t=some (.interface ms)):
  g<w.heap.size/\∃(cs:List Value) (t:TypeId) (fr:Nat×Nat),D1 cs/\w.heap[g]?=some (.cells cs.toArray t fr):=by
 have h1:=h.filter (λx=>x.1==name);rw[hl]at h1;unfold laidMetH at h1;simp only[List.filter,hD,Option.isSome_none,Option.isNone_none]at h1;obtain⟨ps,⟨g',t',cs,fuel,p,q,za,zb,z1,hd,_,_⟩,_⟩:=h1;obtain rfl:=Option.some.inj (hg.symm.trans za);obtain rfl:=Option.some.inj (z8.symm.trans zb);obtain⟨ev,zc,zd⟩:=Nt ht hd;unfold World.var? at z1;rw[hg]at z1;simp only[wq]at z1;cases ho:w.heap[g]? with
 |none=>rw[ho]at z1;simp at z1
 |some o=>rw[ho]at z1;refine⟨(xl.1 ho).1,?_⟩;cases o<;>simp at z1;rename_i ze t fr;exact⟨[ev],t,fr,⟨ev,rfl,zd⟩,by rw[z1,<-zc]⟩
def y0k{w:World}(h:w.ShapedOpen prog):7<w.heap.size/\∃(cs:List Value) (t:TypeId) (fr:Nat×Nat),z0m cs/\w.heap[7]?=some (.cells cs.toArray t fr):=by
 obtain⟨m,hm⟩:=Go.Proofs.cell_of_shapedOpen_int (zero:= #[.int .i64 0]) (t:=3) (g:=7) h (of_decide_eq_true (by kernel_rfl)) (by kernel_rfl) rfl (by kernel_rfl) (by kernel_rfl) underlying3;obtain⟨cs,hh,hs,_⟩:=h.1 7 #[.int .i64 0] 3 (of_decide_eq_true (by kernel_rfl)) (by kernel_rfl);refine⟨(xl.1 hh).1,cs.toList,3,_,⟨m,?_⟩,by simpa using hh⟩;rw[Lib.cell_of_heap hh]at hm;rcases cs with⟨cs⟩
 match cs,hs with
 |[v],_=>simpa using hm
def w1b {l:List (String×DataW Unit)} {w:World} {D E:DataW Unit} (h:laidMetH prog l w) (hS:w.ShapedOpen prog) (hl:l.filter (λx=>x.1== "internal/strconv.uint64pow10")=[("internal/strconv.uint64pow10",Lib.tabData .u64 Lib.pow10Tab)])
  (z1:l.filter (λx=>x.1== "strconv.ErrSyntax")=[("strconv.ErrSyntax",D)]) (z8:l.filter (λx=>x.1== "strconv.ErrRange")=[("strconv.ErrRange",E)]) (hD:D.handleName? =none) (hE:E.handleName? =none):EOK prog w (·<w.heap.size):=λg cs hm=>by
 rcases y_.1 hm with e|hm
 ·cases e
  obtain⟨h1,t,fr,h2⟩:=z1r (t:=297) (e:=244) (n:=20) h hl (by kernel_rfl) (by kernel_rfl) (by kernel_rfl) (by kernel_rfl) (by kernel_rfl) (by kernel_rfl)
  exact⟨h1,_,t,fr,rfl,h2⟩
 rcases y_.1 hm with e|hm
 ·cases e
  exact y0k hS
 rcases y_.1 hm with e|hm
 ·cases e
  exact g0p (t:=230) h z1 hD (by kernel_rfl) (by kernel_rfl) underlying230
 have e:=List.mem_singleton.1 hm
 cases e
 exact g0p (t:=230) h z8 hE (by kernel_rfl) (by kernel_rfl) underlying230
end
section
open Go.RowKit Go.Proofs.YtdcnaocpompcpaaGreatDoor
def u1m{d:Nat}{ts:List Nat}{xs:List AV}(h:Uj T (d+1) (5::ts) xs):∃(u:Nat) (r:List AV),xs=encU u::r/\u<256/\Uj T (d+1) ts r:=by obtain⟨i,zs,r,hi,rfl,h1,h⟩:=h;rw[T5]at hi;cases hi;simp only[Shp,T5,g0f]at h1;obtain⟨n,rfl,a1,a2⟩:=h1;have b1:0<=n:=a1;have b2:n<=255:=a2;clear a1 a2;obtain⟨m,rfl⟩:=xR b1;exact⟨m,r,rfl,by omega,h⟩
def w1n{d:Nat}{ts:List Nat}{xs:List AV}(h:Uj T (d+2) (22::ts) xs):∃(l:List Nat) (r:List AV),xs= .list (l.map encU)::r/\(∀k∈l,k<256)/\Uj T (d+2) ts r:=by
 obtain⟨i,zs,r,hi,rfl,h1,h⟩:=h;rw[T22]at hi;cases hi;simp only[Shp,T22,g0f]at h1;obtain⟨ei,xs,he,rfl,hl,hx⟩:=h1;rw[T5]at he;cases he;obtain⟨l,rfl,hq⟩:=x0k (g:=encU) (Q:=λk=>k<256) xs (λx z1=>by
  obtain⟨zs,rfl,hz⟩:=hx x z1;simp only[Shp,T5,g0f]at hz;obtain⟨n,hn,a1,a2⟩:=hz;have b1:0<=n:=a1;have b2:n<=255:=a2;clear a1 a2;obtain⟨m,rfl⟩:=xR b1;cases hn;exact⟨m,rfl,by omega⟩)
 exact⟨l,r,rfl,hq,h⟩
end
end Go.Abs
