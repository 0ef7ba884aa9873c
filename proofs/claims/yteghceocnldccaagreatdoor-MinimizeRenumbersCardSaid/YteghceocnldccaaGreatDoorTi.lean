/- Part Ti of the proof: an abstract machine over the model, and what the functions of the program hand back in its terms. No condition. -/
import Derived.Test.YteghceocnldccaaGreatDoorTh
import Derived.Test.YteghceocnldccaaGreatDoorTg
import Derived.Test.YteghceocnldccaaGreatDoorTe
import Derived.Test.YteghceocnldccaaGreatDoorTf
import Derived.Test.YteghceocnldccaaGreatDoorTc
import Derived.Shelf.SlGeneric
import Derived.Ground.SlsfProg
import Derived.Shelf.SlSortCmp.WholeK
import Derived.Test.YteghceocnldccaaGreatDoorProg
import Derived.Test.YteghceocnldccaaGreatDoorTd
set_option linter.all false
open List renaming filter_append→uf,foldl_append→vz,mem_filter→xV,getElem?_append_right→zO,getElem?_append_left→zI,getElem?_set_ne→zH,getElem_eq_iff→yJ,append_nil→xS,take_of_length_le→zZ,getElem_mem→zT,findIdx?_map→tF,range→yW,mem_range→xH,mem_map→zX,take_succ_eq_append_getElem→z_,length_map→yP,getElem?_map→yI,getElem?_eq_some_iff→zE,pairwise_map→wS,pairwise_iff_getElem→yU,take_zero→wA,take_append_drop→wd,flatMap_append→wP,length_append→yS,map→ss,map_append→xF,take_length→xD,mem_of_mem_take→ww,getElem?_eq_getElem→zP,map_map→vC,nodup_append→vT,mem_singleton→zW,foldl_cons→xY,mem_cons→yL,ext_getElem?→xX,getElem?_set_self→zU,getElem_inj→u6,getElem?_eq_none→xA,map_congr_left→xP,mem_of_getElem?→zL,getElem?_mapIdx→vO,findIdx?_eq_none_iff→vE,mem_append_left→xL,append_assoc→xZ,getD→yV,mem_append→yE,range_succ→wT,flatMap_def→tN,map_cons→xI,map_nil→wY,length_cons→y_,length_filter_le→xW,getElem?_zipIdx→tq,mem_iff_getElem?→yQ,length_take→wD
open Option renaming map_eq_some_iff→zY
open Int renaming le_refl→xB
open Nat renaming zero_le→wK,le_refl→zV,le_trans→yY,lt_of_lt_of_le→wp
open Bool renaming eq_iff_iff→x_,not_eq_true→uR
open Prod renaming ext→t8
set_option maxHeartbeats 16000000
set_option linter.unusedSimpArgs false
set_option maxRecDepth 100000
namespace Go.Abs
open Go Go.Proofs Go.Maps Go.RowKit
attribute [simp] y2x y2u
abbrev PQ:=(Int×Int)×List Sy
def y2z(e:PQ):AV:= .agg [.i e.1.1,.i e.1.2,.list (e.2.map encSy)]
def z2d(L:List PQ)(s:Int×Int):Bool:=decide (s∈L.map (·.1))
structure PInv (a b:Aut) (L:List PQ):Prop where
 nd:(L.map (·.1)).Nodup
 rng:∀e∈L,inS a e.1.1∧inS b e.1.2
 wl:∀(i:Nat) (e:PQ),L[i]? =some e→e.2.length≤i
def y2q(r:Option (List Sy)):AV:= .tup [LSy (r.getD []),.bool r.isSome]
attribute [local irreducible] Ab toL j12 Sz d0p z2d Yf Dk
end Go.Abs
namespace Go.Abs
open Go Go.Proofs Go.Maps Go.RowKit
instance inS_dec (a:Aut) (s:Int):Decidable (inS a s):=by unfold inS;exact inferInstance
def y12(a:Aut)(p q:Int):Option (List Sy)×Int:=if Ak a≠0 then(none,Ak a)else if inS a p∧inS a q then((Dk a a p q).1,0)else(none,6)
def x1x(r:Option (List Sy)×Int):AV:= .tup [LSy (r.1.getD []),.bool r.1.isSome,.i r.2]
attribute [local irreducible] Ak Dk
abbrev T0 (l:List Nat):List Int:=l.map fun x:Nat=>(x:Int)
attribute [local irreducible] eqS y2o
def j1p(a:Aut):List Int×Int:=if Ak a≠0 then([],Ak a)else(T0 (clA a),0)
end Go.Abs
namespace Go.Abs
open Go Go.Proofs Go.Maps Go.RowKit
def bst(near:Ir)(d:Nat)(pre:List Stp):Option Stp:=f0a (pre.filter fun e=>decide (lkN near e.2=some d))
def v1v(near:Ir)(d:Nat)(b:Option Stp)(e:Stp):Option Stp:=if lkN near e.2=some d then(match b with|none=>some e|some c=>if X6 e.1 c.1 then some e else some c)else b
theorem k0f(near:Ir)(d:Nat):bst near d []=none:=rfl
theorem w1a(near:Ir)(d:Nat)(pre:List Stp)(e:Stp):bst near d (pre++[e])=v1v near d (bst near d pre) e:=by
 unfold bst v1v f0a;rw[uf,vz];by_cases h:lkN near e.2=some d
 ·rw[if_pos h];have:[e].filter (fun e=>decide (lkN near e.2=some d))=[e]:=by simp[h]
  rw[this];rfl
 ·rw[if_neg h];have:[e].filter (fun e=>decide (lkN near e.2=some d))=[]:=by simp[h]
  rw[this];rfl
theorem u1o{near:Ir}{d:Nat}{es:List Stp}{e:Stp}(h:bst near d es=some e):e∈es:=by
 have z1:es.filter (fun e=>decide (lkN near e.2=some d))≠[]:=fun k=>by rw[bst,k]at h;cases h
 obtain⟨f,h1,h2,_⟩:=Cp z1;rw[bst,h1]at h;cases h;exact(xV.1 h2).1
def j11(b:Option Stp):List AV:=match b with
 |some e=>[.i e.1.ty,.i e.1.num,.i e.2.1,.i e.2.2]
 |none=>[.i 0,.i 0,.i 0,.i 0]
theorem y0x(a:Aut)(near:Ir)(s:Int×Int):Ue a near 0 s=[]:=by rw[Ue]
def j13(b:Option Stp):Int×Int:=match b with
 |some e=>e.2
 |none=>(0,0)
def j1z(b:Option Stp):Sy:=match b with
 |some e=>e.1
 |none=>⟨0,0⟩
theorem x0q(a:Aut)(near:Ir)(d:Nat)(s:Int×Int):Ue a near (d+1) s=j1z (bst near d (Wh a a s))::Ue a near d (j13 (bst near d (Wh a a s))):=by rw[Ue];unfold bst;cases f0a ((Wh a a s).filter fun e=>decide (lkN near e.2=some d))<;>rfl
theorem f1k{a:Aut}{near:Ir}(h:NB a near)(s:Int×Int):(lkN near s).getD 0≤1000000:=by
 cases hl:lkN near s with
 |none=>simp
 |some k=>unfold lkN at hl;obtain⟨e,he,rfl⟩:=zY.1 hl;exact h.bd e (List.mem_of_find?_eq_some he)
theorem Pu(b:Option Stp):j11 b=[.i (j1z b).ty,.i (j1z b).num,.i (j13 b).1,.i (j13 b).2]:=by cases b<;>rfl
attribute [local irreducible] Q8 En Rz Wh Yf lkN bst Ue X6
theorem x1w(a:Aut)(ha:OkA a)(H:List AObj)(M:Nat)(near:Ir)(hM:H[M]? =some (mpN near))(hb:NB a near)(p q:Int)(hp:inS a p)(hq:inS a q):
  FC Tryz.prog 90 [Eh a,.mref M,.i p,.i q] H (fun r H'=>r=LSy (Ue a near ((lkN near (p,q)).getD 0) (p,q))∧∀i,i<H.length→H'[i]? =H[i]?):=by
 refine W5 tOk Tryz.func90 rfl Tryz.results90 rfl (by simp[Tryz.ntmps90]) ?_;rw[Tryz.ntmps90];simp only[Qf];simp only[Eh,Q0];have zl:=ha.fin;have y3:=Qi hM;repeat first|(refine r_ ?_;simp)|refine q_ ?_
 refine Z9 rfl rfl rfl rfl (s:=(p,q)) rfl (near:=near) (Qb hM _) hb.nk (S1 ha ha ⟨hp,hq⟩) ?_;simp;have y4:=f1k hb (p,q);generalize (lkN near (p,q)).getD 0=d at *
 repeat first|(refine r_ ?_;simp)|refine q_ ?_
 refine Qx (sl':=[(2,.i p),(3,.i q),(4,.vptr H.length 0),(5,.vptr (H.length+1) 0),(8,.nils),(9,.nils),(10,.vptr (H.length+2) 0)]) ?_ (by simp);refine Wg 9 53 2 rfl ?_;simp;obtain⟨K,hK⟩:∃K,K=H++[AObj.vars (Q0 a),.vars [.mref M]]:=⟨_,rfl⟩
 have y5:K.length=H.length+2:=by rw[hK];simp
 have KA:K[H.length]? =some (.vars (Q0 a)):=by rw[hK,zO (by omega)];simp
 have KN:K[H.length+1]? =some (.vars [.mref M]):=by rw[hK,zO (by omega)];simp
 have KM:K[M]? =some (mpN near):=by rw[hK];exact Qb hM _
 have Kk:∀i,i<H.length→K[i]? =H[i]? :=fun i hi=>by rw[hK,zI hi]
 refine Q9 fun Z hZ=> ?_;have zS:SL K Z (H.length+3) 53 2 (([]:List Sy).map encSy):=by
  rw[hZ];refine⟨by rw[zO (by omega)];simp,by omega,fun j hj=> ?_⟩;rw[hK];by_cases h:j<H.length
  ·rw[zI h,zI h]
  ·rw[zO (by omega),zO (by omega)];obtain rfl|rfl:j=H.length∨j=H.length+1:=by omega
   ·simp[Q0]
   ·simp
 have zD:Z[H.length+2]? =some (.vars [.i d]):=by rw[hZ,zO (by omega)];simp
 clear hZ;obtain⟨W,hW⟩:∃W,Ue a near d (p,q)=W:=⟨_,rfl⟩
 rw[hW];refine Qr (Qd (sl':=[(2,.i p),(3,.i q),(4,.vptr H.length 0),(5,.vptr (H.length+1) 0),(8,.nils),(9,.sl (H.length+3) 2 0 ([]:List Sy).length),(10,.vptr (H.length+2) 0)]) ?_ (by simp));refine Qq (P:=Tryz.prog) (F:=fun(u:Nat×List Sy×(Int×Int)×Nat×Nat×List AObj)=>⟨[(2,.i u.2.2.1.1),(3,.i u.2.2.1.2),(4,.vptr H.length 0),(5,.vptr (H.length+1) 0),(8,.nils),(9,.sl u.2.2.2.1 2 0 u.2.1.length),(10,.vptr u.2.2.2.2.1 0)],u.2.2.2.2.2⟩)
  (fun u=>u.2.1.length+u.1=d∧W=u.2.1++Ue a near u.1 u.2.2.1∧inS a u.2.2.1.1∧inS a u.2.2.1.2∧SL K u.2.2.2.2.2 u.2.2.2.1 53 2 (u.2.1.map encSy)∧u.2.2.2.2.2[u.2.2.2.2.1]? =some (.vars [.i u.1])∧K.length≤u.2.2.2.2.1) (fun u=>u.1) ?_ (d,[],(p,q),H.length+3,H.length+2,Z) ⟨by simp,by simpa using hW.symm,hp,hq,zS,zD,by simp only;omega⟩
 clear zS zD hW hp hq;clear Z;rintro⟨e,w,s,q',D,G⟩ ⟨zm,za,zf,zg,hs,gD,zn⟩ ih;simp only at zm za zf zg hs gD zn ih ⊢;have gA:=hs.kp KA;have gN:=hs.kp KN;have gM:=hs.kp KM;have gk:∀i,i<H.length→G[i]? =H[i]? :=fun i hi=>(hs.keep i (by omega)).trans (Kk i hi);repeat first|(refine r_ ?_;simp[gD])|refine q_ ?_
 refine Qa rfl (fun zo=> ?_) (fun zp=> ?_)
 ·obtain⟨e,rfl⟩:∃f,e=f+1:=⟨e - 1,by simp at zo;omega⟩
  rw[x0q]at za;have hw:IntKind.i64.wrap ((e:Int)+1 - 1)=e:=by rw[show(e:Int)+1 - 1=e by omega];exact wrap_i64 _ (by omega) (by omega)
  have z8:IntKind.i64.wrap (e:Int)=e:=wrap_i64 _ (by omega) (by omega);have gA2:∀L,(G++L)[H.length]? =some (.vars [.i a.types,.list (a.fin.map .bool),.list (a.mv.map encMv),.list (Rz a)]):=fun L=>Qb gA L;repeat first|(refine r_ ?_;simp[gA2])|refine q_ ?_
  refine Qe rfl rfl (by simp) (Kz a a s.1 s.2) rfl ?_;rintro _ rfl;simp;repeat first|(refine r_ ?_;simp)|refine q_ ?_
  obtain⟨best,z7⟩:∃best,bst near e (Wh a a s)=best:=⟨_,rfl⟩
  refine E6 rfl (Rf:=fun _ H'=>(∃sl' zd a' b',H'[G.length+2]? =some (.lp true none 71 sl' zd a' b'))∧H'[G.length]? =some (.vars (j11 best))∧∀i,i<G.length→H'[i]? =G[i]?) ?_ ?_
  ·simp;refine Jy fun H1 zb=> ?_;have f0:H1[G.length]? =some (.vars (j11 none)):=by rw[zb,zO (by omega)];simp[j11]
   have f1:H1[G.length+1]? =some (.vars [.bool false]):=by rw[zb,zO (by omega)];simp
   have fk:∀i,i<G.length→H1[i]? =G[i]? :=fun i hi=>by rw[zb,zI hi]
   have fl:=congrArg (fun h:List AObj=>h[G.length+2]?) zb;have y6:H1.length=G.length+3:=by rw[zb];simp
   simp at fl;clear zb;refine FC.mono (G4 a a ha ha rfl s.1 s.2 zf zg (G.length+2) (by rfl) (by rfl)
    (fun pre H'=>H'[G.length+2]? =H1[G.length+2]? ∧H'[G.length]? =some (.vars (j11 (bst near e pre)))∧H'[G.length+1]? =some (.vars [.bool (bst near e pre).isSome])∧∀i,i<G.length→H'[i]? =G[i]?)
    (fun c H'=>False) H1
    (fun k H' ⟨h2,_,_,_⟩=>h2.trans fl) ?_ ?_ ⟨rfl,by rw[k0f];exact f0,by rw[k0f];exact f1,fk⟩) ?_
   ·rintro k H' L ⟨h2,h3,h5,h4⟩;exact⟨by rw[←h2,zI (by rw[fl]at h2;exact Qi h2)],Qb h3 _,Qb h5 _,fun i hi=>by rw[zI (by have:=Qi h3;omega)];exact h4 i hi⟩
   ·rintro pre x post H' zq ⟨h2,h3,h5,h4⟩ hlen;simp[Ty];have zr:=Dy ha ha (show x∈Wh a a s by rw[zq];simp);have zt:=S1 ha ha zr;have y7:=Qi (h2.trans fl);have z6:=w1a near e pre x;have zz:=Qg (h2.trans fl) .dead;have z0:(H'.set (G.length+2) .dead)[G.length]? =some (.vars (j11 (bst near e pre))):=Qc (j:=G.length+2) (by omega) h3 _;have z1:(H'.set (G.length+2) .dead)[G.length+1]? =some (.vars [.bool (bst near e pre).isSome]):=Qc (j:=G.length+2) (by omega) h5 _;have zk:∀i,i<G.length→(H'.set (G.length+2) .dead)[i]? =G[i]? :=fun i hi=>by rw[zH (by omega)];exact h4 i hi
    have zv:∀i cs,H1.length≤i→H'[i]? =some (.vars cs)→(H'.set (G.length+2) .dead)[i]? =some (.vars cs):=fun i cs hi hc=>by rw[zH (by omega)];exact hc
    have zu:(H'.set (G.length+2) .dead).length=H'.length:=by simp
    rw[←zu];generalize H'.set (G.length+2) .dead=Z at *
    have zN:=(zk _ (Qi gN)).trans gN;have zM:=(zk _ (Qi gM)).trans gM;have zD:=(zk _ (Qi gD)).trans gD;have zNA:∀L,(Z++L)[H.length+1]? =some (.vars [.mref M]):=fun L=>Qb zN L;have zDA:∀L,(Z++L)[D]? =some (.vars [.i ((e:Int)+1)]):=fun L=>Qb zD L;have z1A:∀L,(Z++L)[G.length+1]? =some (.vars [.bool (bst near e pre).isSome]):=fun L=>Qb z1 L;simp only[y1o];repeat first|(refine r_ ?_;simp[zNA,zDA])|refine q_ ?_
    refine Yv rfl rfl rfl rfl (s:=x.2) rfl (near:=near) (Qb zM _) hb.nk zt ?_;simp;unfold v1v at z6;rw[Pu]at z0;have z0A:=fun L=>Qb z0 L;have z0H:=fun L hh=>(yJ hh).2 (z0A L);have z1H:∀L hh,(Z++L)[G.length+1]'hh= .vars [.bool (bst near e pre).isSome]:=fun L hh=>(yJ hh).2 (z1A L);generalize bst near e pre=b at *;generalize lkN near x.2=lk at *
    cases lk with
    |none=>
     rw[if_neg (by simp)]at z6;cases b with
     |none=>
      simp at z1A z1H;repeat first|(refine r_ ?_;simp[zDA,z8,z1A,z1H,z0A,z0H])|refine q_ ?_
      refine Q6 rfl rfl ?_;simp;repeat first|(refine r_ ?_;simp)|refine q_ ?_
      refine Qm rfl ?_;repeat first|(refine r_ ?_;simp)|refine q_ ?_
      refine⟨Qb zz _,rfl,⟨?_,?_,?_,fun i hi=> ?_⟩,fun i cs hi hc=> ?_⟩
      ·rw[fl];exact Qg (Qb zz _) _
      ·rw[z6,Pu];exact z0A _
      ·rw[z6];exact z1A _
      ·rw[zH (by omega),zI (by omega)];exact zk i hi
      ·exact Qc (j:=G.length+2) (by omega) (Qb (zv i cs hi hc) _) _
     |some c=>
      simp at z1A z1H;repeat first|(refine r_ ?_;simp[zDA,z8,z1A,z1H,z0A,z0H])|refine q_ ?_
      refine Q6 rfl rfl ?_;simp;repeat first|(refine r_ ?_;simp)|refine q_ ?_
      refine Qm rfl ?_;repeat first|(refine r_ ?_;simp)|refine q_ ?_
      refine⟨Qb zz _,rfl,⟨?_,?_,?_,fun i hi=> ?_⟩,fun i cs hi hc=> ?_⟩
      ·rw[fl];exact Qg (Qb zz _) _
      ·rw[z6,Pu];exact z0A _
      ·rw[z6];exact z1A _
      ·rw[zH (by omega),zI (by omega)];exact zk i hi
      ·exact Qc (j:=G.length+2) (by omega) (Qb (zv i cs hi hc) _) _
    |some kd=>
     by_cases hkd:kd=e
     ·subst hkd;rw[if_pos rfl]at z6;cases b with
      |none=>
       simp at z1A z1H;simp only at z6;repeat first|(refine r_ ?_;simp[zDA,z8,z1A,z1H,z0A,z0H])|refine q_ ?_
       refine Q6 rfl rfl ?_;simp;repeat first|(refine r_ ?_;simp)|refine q_ ?_
       refine Qm rfl ?_;repeat first|(refine r_ ?_;simp[z0A,z0H,z1A,z1H,Qg z1])|refine q_ ?_
       refine⟨?_,rfl,⟨?_,?_,?_,fun i hi=> ?_⟩,fun i cs hi hc=> ?_⟩
       ·exact Qc (j:=G.length+1) (by omega) (Qc (j:=G.length) (by omega) (Qb zz _) _) _
       ·rw[fl];exact Qg (Qc (j:=G.length+1) (by omega) (Qc (j:=G.length) (by omega) (Qb zz _) _) _) _
       ·rw[z6];exact Qc (j:=G.length+1) (by omega) (Qg (z0A _) _) _
       ·rw[z6];exact Qg (Qc (j:=G.length) (by omega) (z1A _) _) _
       ·rw[zH (by omega),zH (by omega),zH (by omega),zI (by omega)];exact zk i hi
       ·exact Qc (j:=G.length+2) (by omega) (Qc (j:=G.length+1) (by omega) (Qc (j:=G.length) (by omega) (Qb (zv i cs hi hc) _) _) _) _
      |some c=>
       simp at z1A z1H;simp only at z6;repeat first|(refine r_ ?_;simp[zDA,z8,z1A,z1H,z0A,z0H])|refine q_ ?_
       refine Qe rfl rfl (by simp) (Jo x.1 (j1z (some c))) rfl ?_;rintro _ rfl;simp[z0A];cases hbf:X6 x.1 (j1z (some c))with
       |true=>
        rw[if_pos (show X6 x.1 c.1=true from hbf)]at z6;repeat first|(refine r_ ?_;simp)|refine q_ ?_
        refine Qm rfl ?_;repeat first|(refine r_ ?_;simp[z0A,z0H,z1A,z1H,Qg z1])|refine q_ ?_
        refine⟨?_,rfl,⟨?_,?_,?_,fun i hi=> ?_⟩,fun i cs hi hc=> ?_⟩
        ·exact Qc (j:=G.length+1) (by omega) (Qc (j:=G.length) (by omega) (Qb zz _) _) _
        ·rw[fl];exact Qg (Qc (j:=G.length+1) (by omega) (Qc (j:=G.length) (by omega) (Qb zz _) _) _) _
        ·rw[z6];exact Qc (j:=G.length+1) (by omega) (Qg (z0A _) _) _
        ·rw[z6];exact Qg (Qc (j:=G.length) (by omega) (z1A _) _) _
        ·rw[zH (by omega),zH (by omega),zH (by omega),zI (by omega)];exact zk i hi
        ·exact Qc (j:=G.length+2) (by omega) (Qc (j:=G.length+1) (by omega) (Qc (j:=G.length) (by omega) (Qb (zv i cs hi hc) _) _) _) _
       |false=>
        rw[if_neg (by rw[show X6 x.1 c.1=false from hbf];simp)]at z6;repeat first|(refine r_ ?_;simp)|refine q_ ?_
        refine Qm rfl ?_;repeat first|(refine r_ ?_;simp)|refine q_ ?_
        refine⟨Qb zz _,rfl,⟨?_,?_,?_,fun i hi=> ?_⟩,fun i cs hi hc=> ?_⟩
        ·rw[fl];exact Qg (Qb zz _) _
        ·rw[z6,Pu];exact z0A _
        ·rw[z6];exact z1A _
        ·rw[zH (by omega),zI (by omega)];exact zk i hi
        ·exact Qc (j:=G.length+2) (by omega) (Qb (zv i cs hi hc) _) _
     ·have zh:((kd:Int)==(e:Int))=false:=by simp;omega
      rw[if_neg (by simpa using hkd)]at z6;cases b with
      |none=>
       simp at z1A z1H;repeat first|(refine r_ ?_;simp[zDA,z8,zh,z1A,z1H,z0A,z0H])|refine q_ ?_
       refine Q6 rfl rfl ?_;simp;repeat first|(refine r_ ?_;simp)|refine q_ ?_
       refine Qm rfl ?_;repeat first|(refine r_ ?_;simp)|refine q_ ?_
       refine⟨Qb zz _,rfl,⟨?_,?_,?_,fun i hi=> ?_⟩,fun i cs hi hc=> ?_⟩
       ·rw[fl];exact Qg (Qb zz _) _
       ·rw[z6,Pu];exact z0A _
       ·rw[z6];exact z1A _
       ·rw[zH (by omega),zI (by omega)];exact zk i hi
       ·exact Qc (j:=G.length+2) (by omega) (Qb (zv i cs hi hc) _) _
      |some c=>
       simp at z1A z1H;repeat first|(refine r_ ?_;simp[zDA,z8,zh,z1A,z1H,z0A,z0H])|refine q_ ?_
       refine Q6 rfl rfl ?_;simp;repeat first|(refine r_ ?_;simp)|refine q_ ?_
       refine Qm rfl ?_;repeat first|(refine r_ ?_;simp)|refine q_ ?_
       refine⟨Qb zz _,rfl,⟨?_,?_,?_,fun i hi=> ?_⟩,fun i cs hi hc=> ?_⟩
       ·rw[fl];exact Qg (Qb zz _) _
       ·rw[z6,Pu];exact z0A _
       ·rw[z6];exact z1A _
       ·rw[zH (by omega),zI (by omega)];exact zk i hi
       ·exact Qc (j:=G.length+2) (by omega) (Qb (zv i cs hi hc) _) _
   ·rintro _ H' (⟨h2,h3,h5,h4⟩|⟨c,hc⟩)
    ·rw[z7]at h3;exact⟨⟨_,_,_,_,h2.trans fl⟩,h3,h4⟩
    ·exact hc.elim
  ·rintro _ H' ⟨⟨sl',zd,a',b',h2⟩,h3,h4⟩;refine⟨true,none,71,sl',zd,a',b',by simpa using h2,?_⟩;simp;have zi:inS a (j13 best).1∧inS a (j13 best).2:=by
    cases best with
    |none=>exact⟨⟨xB _,by show(0:Int)<_;omega⟩,⟨xB _,by show(0:Int)<_;omega⟩⟩
    |some x=>exact Dy ha ha (u1o z7)
   rw[z7]at za;rw[Pu]at h3;have z0:=Qc (j:=G.length+2) (by omega) h3 .dead;have zk:∀i,i<G.length→(H'.set (G.length+2) .dead)[i]? =G[i]? :=fun i hi=>by rw[zH (by omega)];exact h4 i hi
   have hlen:G.length<(H'.set (G.length+2) .dead).length:=by have:=Qi z0;omega
   generalize H'.set (G.length+2) .dead=Z at *;generalize j1z best=y at *;generalize j13 best=s' at *
   have zc:SL K Z q' 53 2 (w.map encSy):=⟨(zk _ (Qi hs.arr)).trans hs.arr,hs.ge,fun j hj=>(zk j (by have:=Qi hs.arr;have:=hs.ge;omega)).trans (hs.keep j hj)⟩
   have zD:=(zk _ (Qi gD)).trans gD;have zj:(w.map encSy).length=w.length:=by simp
   have zw:q'≠D:=fun e=>by have:=hs.arr;rw[e,gD]at this;simp at this
   have zx:q'≠G.length:=by have:=Qi hs.arr;omega
   have y8:D<G.length:=Qi gD;have zy:W=(w++[y])++Ue a near e s':=by rw[za];simp
   generalize ze:w.map encSy=acc at *
   repeat first|(refine r_ ?_;simp[z0])|refine q_ ?_
   refine Qh tOk rfl rfl T45 rfl T53 rfl (by decide) (by decide) rfl rfl rfl ?_;simp[Qb zc.arr,Qj zc.arr,zj];refine⟨by simp[Wp,Qb zc.arr,Qj zc.arr,zj]<;>omega,?_⟩;have y0:=zc.put [AObj.arr 53 2 [.agg [.i y.ty,.i y.num]]] (acc++[.agg [.i y.ty,.i y.num]]) rfl;have z0A:∀L,(Z.set q' .dead++L)[G.length]? =some (.vars [.i y.ty,.i y.num,.i s'.1,.i s'.2]):=fun L=>Qb (Qc zx z0 _) L;have zDA:∀L,(Z.set q' .dead++L)[D]? =some (.vars [.i ((e:Int)+1)]):=fun L=>Qb (Qc zw zD _) L;repeat first|(refine r_ ?_;simp)|refine q_ ?_
   refine Qk tOk mixed [] (.val 0 (.val 1 (.val 2 (.val 3 (.val 4 (.val 5 (.done))))))) rfl (by kernel_rfl) ?_;simp[z0A];repeat first|(refine r_ ?_;simp[zDA,hw,z8])|refine q_ ?_
   refine Qd (sl':=[(2,.i s'.1),(3,.i s'.2),(4,.vptr H.length 0),(5,.vptr (H.length+1) 0),(8,.nils),(9,.sl (Z.length+1) 2 0 (w++[y]).length),(10,.vptr (Z.length+2) 0)]) ?_ (by simp);have y1:=y0.add [.vars [.i e]];have y9:=zc.le;refine ih (e,w++[y],s',Z.length+1,Z.length+2,_) ⟨by simp;omega,zy,zi.1,zi.2,?_,?_,by simp only;omega⟩ (by simp only;omega)
   ·rw[show(w++[y]).map encSy=acc++[.agg [.i y.ty,.i y.num]] by rw[←ze];simp];simpa using y1
   ·simp only;rw[zO (by simp)];simp
 ·obtain rfl:e=0:=by simp at zp;omega
  rw[y0x,xS]at za;subst za;have y2:=hs.ge;refine Qx (sl':=[(8,.nils),(9,.sl q' 2 0 W.length)]) ?_ (by simp);refine Wl q' hs.arr ?_;simp[AV.fz];rw[zZ (by simp)];repeat first|(refine r_ ?_;simp)|refine q_ ?_
  refine fun i hi=> ?_;rw[zH (by omega)];exact gk i hi
end Go.Abs
namespace Go.Abs
open Go Go.Proofs Go.Maps Go.RowKit
theorem u0r(H:List AObj)(q:Nat)(l:List Int)(g:Nat)(cs:List AV)(f:Int→Bool)(hq:H[q]? =some (.arr 3 1 (l.map AV.i)))(n:Nat)(hn:l.length=n)(hl:l.length≤1000000000)(hg:∀z∈l,FC Tryz.prog g ([]++[.i z]++cs) H (fun r H'=>r= .bool (f z)∧H'=H)):
  FC Tryz.prog 119 [.sl q 1 0 n,.fn (.func g) [] cs] H (fun r H'=>r= .i (Zb f l)∧H'=H):=by
 subst hn;refine W5 tOk Tryz.func119 rfl Tryz.results119 rfl (by simp[Tryz.ntmps119]) ?_;rw[Tryz.ntmps119];simp only[Qf];repeat first|(refine r_ ?_;simp)|refine q_ ?_
 refine Qr (Qd (sl':=[(0,.sl q 1 0 l.length),(1,.fn (.func g) [] cs),(7,.i l.length),(8,.i 0)]) ?_ (by simp));refine Qq (F:=fun(j:Nat)=>⟨[(0,.sl q 1 0 l.length),(1,.fn (.func g) [] cs),(7,.i l.length),(8,.i j)],H⟩)
  (fun j=>j≤l.length∧∀i,∀hi:i<l.length,i<j→f l[i]=false) (fun j=>l.length - j) ?_ 0 ⟨by simp,by simp⟩
 rintro j ⟨hj,hI⟩ ih;repeat first|(refine r_ ?_;simp)|refine q_ ?_
 refine Qa rfl (fun z7=> ?_) (fun z8=> ?_)
 ·have z1:j<l.length:=by simpa using z7
  have hw:IntKind.i64.wrap ((j:Int)+1)=j+1:=wrap_i64 _ (by omega) (by omega);have za:(l.map AV.i)[j]? =some (.i l[j]):=by simp[z1]
  have zb:∀hh,(l.map AV.i)[j]'hh= .i l[j]:=fun hh=>by simp
  repeat first|(refine r_ ?_;simp[z1,hq,za,zb])|refine q_ ?_
  refine Q4 rfl rfl (hg _ (zT z1)) rfl ?_;rintro r H' ⟨rfl,rfl⟩;simp;repeat first|(refine r_ ?_;simp)|refine q_ ?_
  refine Qa rfl (fun h=> ?_) (fun h=> ?_)
  ·repeat first|(refine r_ ?_;simp)|refine q_ ?_
   rw[Ll z1 h hI]
  ·repeat first|(refine r_ ?_;simp[hw])|refine q_ ?_
   refine Qd (sl':=[(0,.sl q 1 0 l.length),(1,.fn (.func g) [] cs),(7,.i l.length),(8,.i (j+1:Nat))]) (ih (j+1) ⟨by omega,fun i hi zc=> ?_⟩ (by omega)) (by simp);by_cases e:i=j
   ·subst e;exact h
   ·exact hI i hi (by omega)
 ·have z6:j=l.length:=by simp at z8;omega
  subst z6;repeat first|(refine r_ ?_;simp)|refine q_ ?_
  rw[D2 hI]
attribute [local irreducible] Q8 En Rz Wh Yf lkN Yd Ai
theorem k1b(a:Aut)(i k:Nat):eqS a i k=(lkN (Yd a) ((i:Int),(k:Int))).isNone:=rfl
theorem Be(a:Aut)(ha:OkA a)(H:List AObj)(N M I:Nat)(i k:Nat)(hN:H[N]? =some (.vars [.mref M]))(hM:H[M]? =some (mpN (Yd a)))(hI:H[I]? =some (.vars [.i i]))(hb:NB a (Yd a))(hi:i<a.fin.length)(hk:k<a.fin.length):
  FC Tryz.prog 144 [.i k,.vptr N 0,.vptr I 0] H (fun r H'=>r= .bool (eqS a i k)∧H'=H):=by
 refine W5 tOk Tryz.func144 rfl Tryz.results144 rfl (by simp[Tryz.ntmps144]) ?_;rw[Tryz.ntmps144];simp only[Qf];rw[k1b];repeat first|(refine r_ ?_;simp[hN,hI])|refine q_ ?_
 refine Yv rfl rfl rfl rfl (s:=((i:Int),(k:Int))) rfl (near:=Yd a) hM hb.nk (S1 ha ha ⟨Rp hi,Rp hk⟩) ?_;simp;repeat first|(refine r_ ?_;simp)|refine q_ ?_
theorem u1g(E:Nat→Bool)(l:List Nat):Zb (fun z:Int=>E z.toNat) (T0 l)=match l.findIdx? E with|some t=>(t:Int)|none=> -1:=by
 have:(T0 l).findIdx? (fun z:Int=>E z.toNat)=l.findIdx? E:=by
  unfold T0;rw[tF]
  congr 1
 show(match (T0 l).findIdx? (fun z:Int=>E z.toNat)with|some i=>(i:Int)|none=> -1)=_;rw[this]
attribute [local irreducible] eqS
theorem F9(a:Aut)(ha:Dfa a):PC Tryz.prog 85 [Eh a] (fun r=>r=LI (T0 (clA a))):=by
 refine Ql tOk Tryz.func85 rfl Tryz.results85 rfl (by simp[Tryz.ntmps85]) ?_;rw[Tryz.ntmps85];simp only[Qf];simp only[Eh,Q0];have zq:=ha.ok.fin;repeat first|(refine r_ ?_;simp)|refine q_ ?_
 refine Q4 rfl rfl (Dc a ha.ok _) rfl ?_;rintro _ Y ⟨M,rfl,zz,zb,zr,hk⟩;simp;have y0:Y[0]? =some (.vars (Q0 a)):=hk 0 (by simp);clear hk;have y1:=Qi zb;have y2:=Qi y0;have y0A:∀L,(Y++L)[0]? =some (.vars [.i a.types,.list (a.fin.map .bool),.list (a.mv.map encMv),.list (Rz a)]):=fun L=>Qb y0 L;have y0H:∀L hh,(Y++L)[0]'hh= .vars [.i a.types,.list (a.fin.map .bool),.list (a.mv.map encMv),.list (Rz a)]:=fun L hh=>(yJ hh).2 (y0A L);repeat first|(refine r_ ?_;simp[y0A,y0H])|refine q_ ?_
 refine Qx (sl':=[(1,.vptr 0 0),(2,.nils),(3,.vptr Y.length 0),(4,.nils),(5,.nils),(13,.i a.fin.length),(14,.i (0:Nat))]) ?_ (by simp);refine Wg 4 3 1 rfl ?_;simp;refine Wg 5 3 1 rfl ?_;simp;refine Q9 fun Z hZ=> ?_;have zM:Z[M]? =some (mpN (Yd a)):=by rw[hZ];exact Qb zb _
 have zN:Z[Y.length]? =some (.vars [.mref M]):=by rw[hZ,zO (by omega)];simp
 have zo:Z[Y.length+1]? =some (.arr 3 1 []):=by rw[hZ,zO (by omega)];simp
 have zf:Z[Y.length+2]? =some (.arr 3 1 []):=by rw[hZ,zO (by omega)];simp
 clear hZ y0A y0H y0;generalize Y.length=N at *;clear zb;clear Y
 have zc:Ai (eqS a) 0=([],[]):=by unfold Ai;rfl
 have zd:clA a=(Ai (eqS a) a.fin.length).2:=rfl;rw[zd];refine Qr (Qd (sl':=[(1,.vptr 0 0),(2,.nils),(3,.vptr N 0),(4,.sl (N+1) 1 0 (Ai (eqS a) 0).2.length),(5,.sl (N+2) 1 0 (Ai (eqS a) 0).1.length),(13,.i a.fin.length),(14,.i (0:Nat))]) ?_ (by simp[zc]));refine Qq (P:=Tryz.prog) (F:=fun(u:Nat×Nat×Nat×List AObj)=>⟨[(1,.vptr 0 0),(2,.nils),(3,.vptr N 0),(4,.sl u.2.1 1 0 (Ai (eqS a) u.1).2.length),(5,.sl u.2.2.1 1 0 (Ai (eqS a) u.1).1.length),(13,.i a.fin.length),(14,.i u.1)],u.2.2.2⟩)
  (fun u=>u.1≤a.fin.length∧u.2.2.2[M]? =some (mpN (Yd a))∧u.2.2.2[N]? =some (.vars [.mref M])∧u.2.2.2[u.2.1]? =some (.arr 3 1 ((T0 (Ai (eqS a) u.1).2).map AV.i))∧u.2.2.2[u.2.2.1]? =some (.arr 3 1 ((T0 (Ai (eqS a) u.1).1).map AV.i))∧u.2.1≠u.2.2.1) (fun u=>a.fin.length - u.1) ?_ (0,N+1,N+2,Z) ⟨wK _,zM,zN,by rw[zc];exact zo,by rw[zc];exact zf,by simp⟩
 clear zM zN zo zf;clear Z;rintro⟨i,qo,q9,G⟩ ⟨hi,gM,gN,go,gf,ze⟩ ih;simp only at hi gM gN go gf ze ih ⊢;have z7:=Br (v15 ha) i hi;have zg:=z7.len;have zh:(Ai (eqS a) i).1.length≤i:=by have zt:(Ai (eqS a) i).1.Nodup:=z7.asc.imp fun h=>Nat.ne_of_lt h;have:=Iy _ (yW i) zt fun x hx=>xH.2 (z7.lt x hx);simpa using this
 have z8:=z7.lt;repeat first|(refine r_ ?_;simp)|refine q_ ?_
 refine Qa rfl (fun zu=> ?_) (fun zv=> ?_)
 ·have zi:i<a.fin.length:=by simpa using zu
  have hw:IntKind.i64.wrap ((i:Int)+1)=i+1:=wrap_i64 _ (by omega) (by omega);have zm:=Ci (eqS a) i;have z1:=fun q' q2 H'=>ih (i+1,q',q2,H');simp only[zm]at z1;unfold Zn at z1;generalize Ai (eqS a) i=st at *
  obtain⟨fs,out⟩:=st;simp only at z1 zg zh z8 go gf;clear z7 zm;repeat first|(refine r_ ?_;simp)|refine q_ ?_
  have y3:=Qi gN;have y4:=Qi go;have y5:=Qi gf;refine Q4 rfl rfl (u0r (G++[AObj.vars [AV.i (i:Int)]]) q9 (T0 fs) 144 [.vptr N 0,.vptr G.length 0] (fun z=>eqS a i z.toNat) (Qb gf _) fs.length (by simp) (by simp;omega) (fun z hz=>by
   obtain⟨k,hk,rfl⟩:=zX.1 hz;have y6:=z8 k hk;exact Be a ha.ok _ N M G.length i k (Qb gN _) (Qb gM _) (by simp) zr zi (by omega))) rfl ?_
  rintro _ _ ⟨rfl,rfl⟩;rw[u1g];simp;have kI:(G++[AObj.vars [AV.i (i:Int)]])[G.length]? =some (.vars [.i i]):=by simp
  have kM:(G++[AObj.vars [AV.i (i:Int)]])[M]? =some (mpN (Yd a)):=Qb gM _;have kN:(G++[AObj.vars [AV.i (i:Int)]])[N]? =some (.vars [.mref M]):=Qb gN _;have ko:(G++[AObj.vars [AV.i (i:Int)]])[qo]? =some (.arr 3 1 ((T0 out).map AV.i)):=Qb go _;have kf:(G++[AObj.vars [AV.i (i:Int)]])[q9]? =some (.arr 3 1 ((T0 fs).map AV.i)):=Qb gf _;generalize G.length=I at *;generalize G++[AObj.vars [AV.i (i:Int)]]=Y at *
  have z6:((T0 out).map AV.i).length=out.length:=by simp
  have za:((T0 fs).map AV.i).length=fs.length:=by simp
  have zn:qo≠M:=fun e=>by rw[e,kM]at ko;simp[mpN]at ko
  have zp:qo≠N:=fun e=>by rw[e,kN]at ko;simp at ko
  have zw:q9≠M:=fun e=>by rw[e,kM]at kf;simp[mpN]at kf
  have zx:q9≠N:=fun e=>by rw[e,kN]at kf;simp at kf
  have y7:q9≠I:=fun e=>by rw[e,kI]at kf;simp at kf
  have mo:∀c:Nat,(T0 (out++[c])).map AV.i=(T0 out).map AV.i++[.i c]:=fun c=>by simp
  have mf:∀c:Nat,(T0 (fs++[c])).map AV.i=(T0 fs).map AV.i++[.i c]:=fun c=>by simp
  cases hix:fs.findIdx? (eqS a i)with
  |some t=>
   rw[hix]at z1;simp only[mo]at z1;generalize (T0 out).map AV.i=ao at *
   repeat first|(refine r_ ?_;simp)|refine q_ ?_
   refine Qa rfl (fun h=>by first|(simp at h;done)|(simp at h;omega)) (fun _=> ?_);repeat first|(refine r_ ?_;simp)|refine q_ ?_
   refine Qh tOk rfl rfl T40 rfl T3 rfl (by decide) (by decide) rfl rfl rfl ?_;simp[Qb ko,Qj ko,z6];refine⟨by simp[Wp,Qb ko,Qj ko,z6]<;>omega,?_⟩;repeat first|(refine r_ ?_;simp[hw])|refine q_ ?_
   refine Qd (sl':=[(1,.vptr 0 0),(2,.nils),(3,.vptr N 0),(4,.sl (Y.length+1) 1 0 (out++[t]).length),(5,.sl q9 1 0 fs.length),(13,.i a.fin.length),(14,.i (i+1:Nat))]) ?_ (by simp);refine z1 (Y.length+1) q9 _ ⟨by omega,Qb (Qc zn kM _) _,Qb (Qc zp kN _) _,?_,Qb (Qc ze kf _) _,by have:=Qi kf;omega⟩ (by omega);rw[zO (by simp)];simp
  |none=>
   rw[hix]at z1;simp only[mo,mf]at z1;generalize (T0 out).map AV.i=ao at *;generalize (T0 fs).map AV.i=af at *
   repeat first|(refine r_ ?_;simp)|refine q_ ?_
   refine Qa rfl (fun _=> ?_) (fun h=>by first|(simp at h;done)|(simp at h;omega));repeat first|(refine r_ ?_;simp[kI])|refine q_ ?_
   refine Qh tOk rfl rfl T40 rfl T3 rfl (by decide) (by decide) rfl rfl rfl ?_;simp[Qb kf,Qj kf,za];refine⟨by simp[Wp,Qb kf,Qj kf,za]<;>omega,?_⟩;refine Q9 fun Z hZ=> ?_;have zM:Z[M]? =some (mpN (Yd a)):=by rw[hZ];exact Qb (Qc zw kM _) _
   have zN:Z[N]? =some (.vars [.mref M]):=by rw[hZ];exact Qb (Qc zx kN _) _
   have zo:Z[qo]? =some (.arr 3 1 ao):=by rw[hZ];exact Qb (Qc (Ne.symm ze) ko _) _
   have zf:Z[Y.length+1]? =some (.arr 3 1 (af++[.i i])):=by rw[hZ,zO (by simp)];simp
   have zj:qo≠Y.length+1:=by have:=Qi ko;omega
   clear hZ;generalize Y.length+1=qf2 at *
   repeat first|(refine r_ ?_;simp)|refine q_ ?_
   refine Qh tOk rfl rfl T40 rfl T3 rfl (by decide) (by decide) rfl rfl rfl ?_;simp[Qb zo,Qj zo,z6];refine⟨by simp[Wp,Qb zo,Qj zo,z6]<;>omega,?_⟩;repeat first|(refine r_ ?_;simp[hw])|refine q_ ?_
   refine Qd (sl':=[(1,.vptr 0 0),(2,.nils),(3,.vptr N 0),(4,.sl (Z.length+1) 1 0 (out++[fs.length]).length),(5,.sl qf2 1 0 (fs++[i]).length),(13,.i a.fin.length),(14,.i (i+1:Nat))]) ?_ (by simp);refine z1 (Z.length+1) qf2 _ ⟨by omega,Qb (Qc zn zM _) _,Qb (Qc zp zN _) _,?_,Qb (Qc zj zf _) _,by have:=Qi zf;omega⟩ (by omega);rw[zO (by simp)];simp
 ·have zk:i=a.fin.length:=by simp at zv;omega
  subst zk;have zy:((T0 (Ai (eqS a) a.fin.length).2).map AV.i).length=(Ai (eqS a) a.fin.length).2.length:=by simp
  generalize zl:(T0 (Ai (eqS a) a.fin.length).2).map AV.i=acc at *
  repeat first|(refine r_ ?_;simp[go,zy])|refine q_ ?_
  rw[zZ (by omega),←zl];simp
end Go.Abs
namespace Go.Abs
open Go Go.Proofs Go.Maps Go.RowKit
@[simp] theorem encMac_pure (a:Aut):(Eh a).pure=true:=by simp[Eh,Q0,Rz,T7,AV.pure]
attribute [local irreducible] Ak Dk Q8 En Rz Wh Yf lkN Yd Ai clA Ue
theorem X4(a:Aut):PC Tryz.prog 28 [encA a] (fun r=>r= .tup [LI (j1p a).1,.i (j1p a).2]):=by
 refine Ql tOk Tryz.func28 rfl Tryz.results28 rfl (by simp[Tryz.ntmps28]) ?_;rw[Tryz.ntmps28];simp only[Qf];simp only[encA];obtain⟨R,hR⟩:∃R,j1p a=R:=⟨_,rfl⟩
 rw[hR];unfold j1p at hR;repeat first|(refine r_ ?_;simp)|refine q_ ?_
 refine Qe rfl rfl (by simp) (q0i a) rfl ?_;rintro _ rfl;simp;repeat first|(refine r_ ?_;simp)|refine q_ ?_
 refine Qa rfl (fun h=> ?_) (fun h=> ?_)
 ·rw[if_pos (by simpa using h)]at hR;rw[←hR];repeat first|(refine r_ ?_;simp)|refine q_ ?_
 have h0:Ak a=0:=by simpa using h
 have ha:=(Ms a).1 h0;rw[if_neg (fun k=>k h0)]at hR;rw[←hR];repeat first|(refine r_ ?_;simp)|refine q_ ?_
 refine Qe rfl rfl (by simp) (Rw a ha.ok) rfl ?_;rintro _ rfl;simp;refine Qe rfl rfl (by simp) (F9 a ha) rfl ?_;rintro _ rfl;simp;repeat first|(refine r_ ?_;simp)|refine q_ ?_
theorem d05(a:Aut)(p:Int):(decide (0≤p) && decide (p<a.fin.length))=decide (inS a p):=by rw[x_,decide_eq_true_eq,Bool.and_eq_true,decide_eq_true_eq,decide_eq_true_eq];exact Iff.rfl
theorem Ow(a:Aut)(i:Int){b:Bool}(hb:decide (inS a i)=b):PC Tryz.prog 88 [encA a,.i i] (fun r=>r= .bool b):=by have:=j0k a i;rw[d05,hb]at this;exact this
theorem Ik(a:Aut)(p q:Int):PC Tryz.prog 30 [encA a,.i p,.i q] (fun r=>r=x1x (y12 a p q)):=by
 refine Ql tOk Tryz.func30 rfl Tryz.results30 rfl (by simp[Tryz.ntmps30]) ?_;rw[Tryz.ntmps30];simp only[Qf];simp only[encA];obtain⟨R,hR⟩:∃R,y12 a p q=R:=⟨_,rfl⟩
 rw[hR];unfold y12 at hR;repeat first|(refine r_ ?_;simp)|refine q_ ?_
 refine Qe rfl rfl (by simp) (q0i a) rfl ?_;rintro _ rfl;simp;repeat first|(refine r_ ?_;simp)|refine q_ ?_
 refine Qa rfl (fun h=> ?_) (fun h=> ?_)
 ·rw[if_pos (by simpa using h)]at hR;rw[←hR];repeat first|(refine r_ ?_;simp)|refine q_ ?_
  rfl
 have h0:Ak a=0:=by simpa using h
 have ha:=(Ms a).1 h0;rw[if_neg (fun k=>k h0)]at hR;repeat first|(refine r_ ?_;simp)|refine q_ ?_
 by_cases hp:inS a p
 ·have e1:decide (inS a p)=true:=by simpa using hp
  refine Qe rfl rfl (by simp) (Ow a p e1) rfl ?_;rintro _ rfl;simp;by_cases hq:inS a q
  ·rw[if_pos ⟨hp,hq⟩]at hR;have e2:decide (inS a q)=true:=by simpa using hq
   refine Qe rfl rfl (by simp) (Ow a q e2) rfl ?_;rintro _ rfl;simp;refine Qm rfl ?_;repeat first|(refine r_ ?_;simp)|refine q_ ?_
   refine Qe rfl rfl (by simp) (Rw a ha.ok) rfl ?_;rintro _ rfl;simp[Eh,Q0];repeat first|(refine r_ ?_;simp)|refine q_ ?_
   have z1:=v0u ha hp hq;rw[z1]at hR;refine Q4 rfl rfl (Dc a ha.ok _) rfl ?_;rintro _ Y ⟨M,rfl,za,z6,z7,hk⟩;have z8:=x1w a ha.ok Y M (Yd a) z6 z7 p q hp hq;have y2:Y[1]? =some (.vars (Q0 a)):=hk 1 (by simp);simp only[Q0]at y2;clear hk z1;simp;repeat first|(refine r_ ?_;simp)|refine q_ ?_
   refine Yv rfl rfl rfl rfl (s:=(p,q)) rfl (near:=Yd a) z6 z7.nk (S1 ha.ok ha.ok ⟨hp,hq⟩) ?_;simp;cases hlk:lkN (Yd a) (p,q)with
   |none=>
    rw[hlk]at hR;rw[←hR];repeat first|(refine r_ ?_;simp)|refine q_ ?_
    refine Qm rfl ?_;repeat first|(refine r_ ?_;simp)|refine q_ ?_
    rfl
   |some d=>
    rw[hlk]at hR z8;rw[←hR];repeat first|(refine r_ ?_;simp)|refine q_ ?_
    refine Qm rfl ?_;repeat first|(refine r_ ?_;simp[y2])|refine q_ ?_
    refine Q4 rfl rfl z8 rfl ?_;rintro _ X ⟨rfl,_⟩;simp;repeat first|(refine r_ ?_;simp)|refine q_ ?_
    rfl
  ·rw[if_neg (fun k=>hq k.2)]at hR;rw[←hR];have e2:decide (inS a q)=false:=by simpa using hq
   refine Qe rfl rfl (by simp) (Ow a q e2) rfl ?_;rintro _ rfl;simp;refine Qm rfl ?_;repeat first|(refine r_ ?_;simp)|refine q_ ?_
   rfl
 ·rw[if_neg (fun k=>hp k.1)]at hR;rw[←hR];have e1:decide (inS a p)=false:=by simpa using hp
  refine Qe rfl rfl (by simp) (Ow a p e1) rfl ?_;rintro _ rfl;simp;refine Q6 rfl rfl ?_;simp;refine Qm rfl ?_;repeat first|(refine r_ ?_;simp)|refine q_ ?_
  rfl
end Go.Abs
namespace Go.Abs
open Go Go.Proofs Go.Maps Go.RowKit
theorem f0d{a b:List Int}{j:Nat}(h1:j<a.length)(h2:j<b.length)(h:a.take j=b.take j)(e:a[j]=b[j]):a.take (j+1)=b.take (j+1):=by rw[z_ h1,z_ h2,h,e]
theorem g01(a b:List Int):PC Tryz.prog 32 [LI a,LI b] (fun r=>r= .bool (decide (a=b))):=by
 refine Ql tOk Tryz.func32 rfl Tryz.results32 rfl (by simp[Tryz.ntmps32]) ?_;rw[Tryz.ntmps32];simp only[Qf];refine Ub 0 rfl (fun hlen=> ?_);rw[yP]at hlen;repeat first|(refine r_ ?_;simp)|refine q_ ?_
 refine Qa rfl (fun h=> ?_) (fun h1=> ?_)
 ·repeat first|(refine r_ ?_;simp)|refine q_ ?_
  rintro rfl;simp at h
 have hl:a.length=b.length:=by simp at h1;omega
 repeat first|(refine r_ ?_;simp)|refine q_ ?_
 refine Qu a.length (fun j=>a.take j=b.take j) (fun j=>[(0,LI a),(1,LI b),(12,.i a.length),(13,.i j)]) (fun _=>[]) rfl (by simp) (by simp) (by simp) (by simp) (by simp) ?_;intro j hj hI ih;repeat first|(refine r_ ?_;simp)|refine q_ ?_
 refine Qa rfl (fun z8=> ?_) (fun za=> ?_)
 ·have z1:j<a.length:=by simpa using z8
  have z6:j<b.length:=by omega
  repeat first|(refine r_ ?_;simp)|refine q_ ?_
  refine Qk tOk mixed [] (.val 0 (.val 1 (.val 2 (.val 3 (.val 4 (.val 5 (.val 6 (.val 7 (.val 8 (.done)))))))))) rfl (by kernel_rfl) ?_;simp[z1,z6];refine Qa rfl (fun h=> ?_) (fun h=> ?_)
  ·repeat first|(refine r_ ?_;simp)|refine q_ ?_
   rintro rfl;simp at h
  ·repeat first|(refine r_ ?_;simp)|refine q_ ?_
   have he:a[j]=b[j]:=by simpa using h
   refine Qs _ (ih z1 (f0d z1 z6 hI he)) rfl (by simp) ?_ (by simp) (by simp);simp;exact wrap_i64 _ (by omega) (by omega)
 ·have z7:j=a.length:=by simp at za;omega
  subst z7;repeat first|(refine r_ ?_;simp)|refine q_ ?_
  rw[zZ (zV _),zZ (by omega)]at hI;exact hI
attribute [local irreducible] g1n d02 y1z
end Go.Abs
namespace Go.Abs
open Go Go.Proofs Go.Maps Go.RowKit
theorem P4(lo hi:Int):PC Tryz.prog 79 [.i lo,.i hi] (fun r=>r=encP (Hw lo hi)):=by
 refine Ql tOk Tryz.func79 rfl Tryz.results79 rfl (by simp[Tryz.ntmps79]) ?_;rw[Tryz.ntmps79];simp only[Qf];refine Pt (Uq tOk rfl ?_);simp;refine Pt (Uq tOk rfl ?_);simp;refine U6 1 (e:=187) (c:=2) (xs:=[encIv ⟨lo,hi⟩]) rfl 2 (o0:= .va 171 1 [.sl 1 2 0 1]) rfl (by decide) rfl ?_;simp[AObj.fz,AV.fz];refine Im 2 rfl (by simp[AV.cells,AV.pure]) ?_;simp;refine We 2 (e:=171) (c:=1) (xs:=[encL [⟨lo,hi⟩]]) rfl 0 rfl ?_;simp;repeat first|(refine r_ ?_;simp)|refine q_ ?_
 rfl
def exM(b:Bool):Aut:=⟨1,[false,true,b],[⟨0,1,Hw (-1099511627776) 4⟩,⟨0,2,Hw 5 1099511627776⟩,⟨1,2,Hw (-1099511627776) 1099511627776⟩,⟨2,1,Hw (-1099511627776) 1099511627776⟩]⟩
def x0o:Aut:=⟨1,[false,true],[⟨0,1,Hw (-1099511627776) 1099511627776⟩,⟨1,1,Hw (-1099511627776) 1099511627776⟩]⟩
theorem q26(b:Bool):Ak (exM b)=0:=by cases b<;>decide+kernel
theorem z2u:clA (exM true)=[0,1,1]:=by decide+kernel
theorem y1v:Ev (exM true)=x0o:=by kernel_rfl
theorem q25:(Dk (exM true) (exM true) 0 1).1=some []:=by kernel_rfl
theorem w2z:(Dk (exM false) (exM false) 0 2).1=some [⟨0,5⟩]:=by kernel_rfl
theorem y2f:Bf x0o=false:=by decide+kernel
theorem x14:Rj (exM true) (Wv (exM true))=[]:=List.isEmpty_iff.1 (by decide+kernel)
theorem c16:A0 (exM true)=(0,exM true):=by rw[A0,x14];rfl
def xC:List Prd:=[[[⟨-1099511627776,4⟩]],[[⟨5,1099511627776⟩]]]
def xQ:List (List Int):=[[0],[1],[2]]
theorem u09:(f0t (exM true).types (onA (exM true))).1=0∧(f0t (exM true).types (onA (exM true))).2=xC:=by decide+kernel
theorem q2q:Ee (exM true).types (onA (exM true))=(0,xC):=by rw[←f0p];exact t8 u09.1 u09.2
theorem v06:Az (exM true) xC=some xQ:=by decide+kernel
theorem w2g:Wf (exM true)=0:=by decide+kernel
theorem d1j:Yz (exM true)=(0,xC,xQ):=by
 rw[Yz,if_neg (fun k=>k w2g),q2q];rw[if_neg (by simp)];split
 ·rename_i h;have h2:Az (exM true) xC=none:=h;rw[v06]at h2;cases h2
 ·rename_i Q h;have h2:Az (exM true) xC=some Q:=h;rw[v06]at h2;rw[←Option.some.inj h2]
theorem j1n:detA (exM true) xC xQ=exM true:=by kernel_rfl
theorem g1m:Bn (exM true)=false:=by decide+kernel
theorem c1w:R4 (exM true)=(0,exM true):=by rw[R4,d1j,if_neg (by simp)];show Zq (detA (exM true) xC xQ)=_;rw[j1n,Mt,g1m];rfl
theorem d1y:Jp (exM true)=(0,x0o):=by rw[Jp,c1w,if_neg (by simp)];simp only[c16];rw[if_neg (by simp),y1v,y2f];rfl
theorem g1b:j1p (exM true)=([0,1,1],0):=by rw[j1p,if_neg (fun k=>k (q26 true)),z2u];rfl
theorem q18(b:Bool)(i:Int)(h:0≤i∧i<3):inS (exM b) i:=⟨h.1,by simpa[exM]using h.2⟩
theorem q2o:y12 (exM true) 0 1=(some [],0):=by rw[y12,if_neg (fun k=>k (q26 true)),if_pos ⟨q18 _ _ (by decide),q18 _ _ (by decide)⟩,q25]
theorem w22:y12 (exM false) 0 2=(some [⟨0,5⟩],0):=by rw[y12,if_neg (fun k=>k (q26 false)),if_pos ⟨q18 _ _ (by decide),q18 _ _ (by decide)⟩,w2z]
theorem U0(b:Bool):PC Tryz.prog 78 [.bool b] (fun r=>r=encA (exM b)):=by
 refine Ql tOk Tryz.func78 rfl Tryz.results78 rfl (by simp[Tryz.ntmps78]) ?_;rw[Tryz.ntmps78];simp only[Qf];have z1:yW 3=[0,1,2]:=rfl;have z6:yW 4=[0,1,2,3]:=rfl;repeat first|(refine r_ ?_;simp[z1,z6])|refine q_ ?_
 refine Qe rfl rfl (by simp) (P4 (-1099511627776) 4) rfl ?_;rintro _ rfl;simp[z1,z6];refine Qe rfl rfl (by simp) (P4 5 1099511627776) rfl ?_;rintro _ rfl;simp[z1,z6];refine Qe rfl rfl (by simp) (P4 (-1099511627776) 1099511627776) rfl ?_;rintro _ rfl;simp[z1,z6];refine Qe rfl rfl (by simp) (P4 (-1099511627776) 1099511627776) rfl ?_;rintro _ rfl;simp[z1,z6];repeat first|(refine r_ ?_;simp[z1,z6])|refine q_ ?_
 exact⟨rfl,rfl,rfl⟩
end Go.Abs
namespace Go.Abs
open Go Go.Proofs Go.Maps Go.RowKit
theorem g1g(a b a' b':Int):eqA T 9 53 (.agg [.int .i64 a,.int .i64 b]) (.agg [.int .i64 a',.int .i64 b'])=some (a==a' && b==b'):=by simp[eqA,Yr,Hm,TI.agg]
theorem v1l{a b:List Sy}{j:Nat}(h1:j<a.length)(h2:j<b.length)(h:a.take j=b.take j)(e:a[j]=b[j]):a.take (j+1)=b.take (j+1):=by rw[z_ h1,z_ h2,h,e]
theorem x0g(a b:List Sy):PC Tryz.prog 33 [LSy a,LSy b] (fun r=>r= .bool (decide (a=b))):=by
 refine Ql tOk Tryz.func33 rfl Tryz.results33 rfl (by simp[Tryz.ntmps33]) ?_;rw[Tryz.ntmps33];simp only[Qf];refine Ub 0 rfl (fun hlen=> ?_);rw[yP]at hlen;repeat first|(refine r_ ?_;simp)|refine q_ ?_
 refine Qa rfl (fun h=> ?_) (fun h1=> ?_)
 ·repeat first|(refine r_ ?_;simp)|refine q_ ?_
  rintro rfl;simp at h
 have hl:a.length=b.length:=by simp at h1;omega
 repeat first|(refine r_ ?_;simp)|refine q_ ?_
 refine Qu a.length (fun j=>a.take j=b.take j) (fun j=>[(0,LSy a),(1,LSy b),(12,.i a.length),(13,.i j)]) (fun _=>[]) rfl (by simp) (by simp) (by simp) (by simp) (by simp) ?_;intro j hj hI ih;repeat first|(refine r_ ?_;simp)|refine q_ ?_
 refine Qa rfl (fun z8=> ?_) (fun za=> ?_)
 ·have z1:j<a.length:=by simpa using z8
  have z6:j<b.length:=by omega
  repeat first|(refine r_ ?_;simp)|refine q_ ?_
  refine Qk tOk mixed [] (.val 0 (.val 1 (.val 2 (.val 3 (.val 4 (.val 5 (.val 6 (.val 7 (.val 8 (.done)))))))))) rfl (by kernel_rfl) ?_;simp[z1,z6,g1g];refine Qa rfl (fun h=> ?_) (fun h=> ?_)
  ·repeat first|(refine r_ ?_;simp)|refine q_ ?_
   rintro rfl;simp at h
  ·repeat first|(refine r_ ?_;simp)|refine q_ ?_
   have he:a[j]=b[j]:=by
    have h2:a[j].ty=b[j].ty∧a[j].num=b[j].num:=by simpa using h
    cases ha:a[j];cases hb:b[j];rw[ha,hb]at h2;simp only at h2;rw[h2.1,h2.2]
   refine Qs _ (ih z1 (v1l z1 z6 hI he)) rfl (by simp) ?_ (by simp) (by simp);simp;exact wrap_i64 _ (by omega) (by omega)
 ·have z7:j=a.length:=by simp at za;omega
  subst z7;repeat first|(refine r_ ?_;simp)|refine q_ ?_
  rw[zZ (zV _),zZ (by omega)]at hI;exact hI
end Go.Abs
namespace Go.Abs
open Go Go.Proofs Go.RowKit Go.Shelf Go.Lib Go.Sort
abbrev BIv:={ x:Iv // Ie x }
instance:Inhabited BIv:=⟨⟨⟨0,0⟩,by unfold Ie inB;decide⟩⟩
def c0x(x:BIv):List Value:=Kc x.1
def j1x(x y:BIv):Int:=x.1.lo - y.1.lo
theorem Nq(x y:BIv)(W:World):Calls Tryz.prog 195 #[.agg #[.int .i64 x.1.lo,.int .i64 x.1.hi],.agg #[.int .i64 y.1.lo,.int .i64 y.1.hi]] W fun e w'=>e= .returned (.int .i64 (j1x x y))∧∃q os',w'=grow (W.drewN q) os':=by
 have h1:=(W4 _).1 x.2.1;have h2:=(W4 _).1 y.2.1;have hw:IntKind.i64.wrap (x.1.lo - y.1.lo)=j1x x y:=wrap_i64 _ (by omega) (by omega)
 go_enter Tryz.func195,Tryz.ntmps195
 go_wp2
 go_ret
 exact⟨rfl,0,_,by rw[alloc_eq_grow,alloc_eq_grow,grow_grow];rfl⟩
theorem w19(x y:BIv):ltOf j1x x y=decide (x.1.lo<y.1.lo):=by unfold ltOf j1x;rw[x_];simp;omega
theorem g1t:SWO (ltOf j1x) where
 irrefl x:=by rw[w19];simp
 trans x y z h1 h2:=by rw[w19]at *;simp at *;omega
 ntrans x y z h1 h2:=by rw[w19]at *;simp at *;omega
theorem z2t(l:List BIv):RowOf 2 ((l.map (·.1)).map encIv) (flatK c0x 2 l.toArray) where
 size:=by simp
 width x hx:=by obtain⟨y,_,rfl⟩:=zX.1 hx;rfl
 cell i x hx j y hy:=by
  rw[yI,yI]at hx;obtain⟨z0,z1,rfl⟩:=zY.1 hx;obtain⟨z,hz,rfl⟩:=zY.1 z1;obtain⟨hi,rfl⟩:=zE.1 hz;have hj:j<2:=(zE.1 hy).1;rw[get_flatK _ _ _ _ (by simp;omega)];rw[show(i * 2+j) / 2=i by omega,show(i * 2+j) % 2=j by omega];rw[getElem!_pos l.toArray i (by simpa using hi)]
  match j,hj with
  |0,_=>simp[encIv,AV.cells]at hy;subst hy;rfl
  |1,_=>simp[encIv,AV.cells]at hy;subst hy;rfl
theorem k0v(H:List AObj)(p:Nat)(l:List BIv)(hp:H[p]? =some (.arr 187 2 ((l.map (·.1)).map encIv)))(hl:l.length≤1000000):
  FC Tryz.prog 179 [.sl p 2 0 l.length,.fn (.func 195) [] []] H
   (fun r H'=>r= .tup []∧∃l':List BIv,l'.Perm l∧Zr (l'.map (·.1))∧H'=H.set p (.arr 187 2 ((l'.map (·.1)).map encIv))):=by
 refine(j04 (xs:=(l.map (·.1)).map encIv) (Yg Tryz.func179 rfl rfl) (by simp) hp (z2t l) [.func (.func 195) #[] #[]] (fun w I m vs a b=>V5 _ w I m _ vs a b) (fun z1=>∃l':List BIv,l'.Perm l∧Zr (l'.map (·.1))∧z1=(l'.map (·.1)).map encIv) ?_ ?_).mono ?_
 ·intro b cap w hH hb hc;have eg:∀args w,(callFunc 195 args).run Tryz.prog w= .ok (.enter 195 args) w:=enters_of Tryz.func195 (by kernel_rfl) rfl;have:=AnyQ.slices_SortFunc Tryz.sortIv 2 Tryz.isAgg187 Tryz.sizeOf187 c0x (fun _=>rfl) (fun x v hv=>by simp[c0x,Kc]at hv;rcases hv with rfl|rfl<;>rfl) j1x g1t 195 #[] b 0 cap l.toArray w eg (fun _ _ _ _ x y=>Nq x y _) hH hb (by simp;omega);change Calls Tryz.prog 179 _ _ _ at this;rw[show(l.toArray).size=l.length by simp]at this;refine Calls.mono (this) ?_;rintro e w' ⟨rfl,d',n,os,h1,h2,rfl⟩;obtain⟨s1,_,s3⟩:=h1;have hs:d'.toList.length=l.length:=by simpa using s1
  refine⟨rfl,(d'.toList.map (·.1)).map encIv,flatK c0x 2 d',n,os,⟨d'.toList,?_,?_,rfl⟩,by simp[hs],by simpa using z2t d'.toList,rfl⟩
  ·rw[show d'.extract 0 l.length=d' by simp[←hs],show l.toArray.extract 0 l.length=l.toArray by simp]at s3;simpa using s3
  ·refine wS.2 (yU.2 fun i j hi hj z6=> ?_);have:=h2 i j (wK _) z6 (by omega);rw[w19,getElem!_pos d' i (by simpa using hi),getElem!_pos d' j (by simpa using hj)]at this;simpa using this
 ·rintro h;have z7:l=[]:=by
   cases l with
   |nil=>rfl
   |cons x r=>simp at h
  subst z7;exact⟨⟨[],.refl _,.nil,rfl⟩,fun w=>AnyF.slices_SortFunc_none Tryz.sortIv none 0 _ w⟩
 ·rintro r H' ⟨rfl,z1,⟨l',h1,h2,rfl⟩,rfl⟩;exact⟨rfl,l',h1,h2,rfl⟩
theorem c06(H:List AObj)(p:Nat)(l:List Iv)(hp:H[p]? =some (.arr 187 2 (l.map encIv)))(hl:l.length≤1000000)(z1:∀y∈l,Ie y):
  FC Tryz.prog 179 [.sl p 2 0 l.length,.fn (.func 195) [] []] H
   (fun r H'=>r= .tup []∧∃l':List Iv,l'.Perm l∧Zr l'∧H'=H.set p (.arr 187 2 (l'.map encIv))):=by
 have hb:(l.attach.map fun x=>(⟨x.1,z1 x.1 x.2⟩:BIv)).map (·.1)=l:=by simp
 have:=k0v H p (l.attach.map fun x=>(⟨x.1,z1 x.1 x.2⟩:BIv)) (by rw[hb];exact hp) (by simpa using hl);rw[show(l.attach.map fun x=>(⟨x.1,z1 x.1 x.2⟩:BIv)).length=l.length by simp]at this;refine this.mono ?_;rintro r H' ⟨rfl,l',h1,h2,rfl⟩;refine⟨rfl,l'.map (·.1),?_,h2,rfl⟩;have:=h1.map (·.1)
 rwa [hb]at this
end Go.Abs
namespace Go.Abs
open Go Go.Proofs Go.Maps Go.RowKit
attribute [local irreducible] Ww Qy Ef Qw Uh Dp
theorem Cm(T:Nat)(l:List Prd)(hT:T≤16)(hl:∀p∈l,PWf T p)(hn:∀i,i<T→(Qw l i).length≤1000000)(yf:l.length≤1000000):PC Tryz.prog 161 [.i T,LP l] (fun r=>r=encP (Uh T l)):=by
 refine Ql tOk Tryz.func161 rfl Tryz.results161 rfl (by simp[Tryz.ntmps161]) ?_;rw[Tryz.ntmps161];simp only[Qf];simp only[encP];repeat first|(refine r_ ?_;simp)|refine q_ ?_
 refine Wn tOk rfl rfl rfl T74 rfl Pe rfl rfl rfl (n:=T) (by simp;omega) (by unfold maxLen;omega) .nils rfl ?_;simp;repeat first|(refine r_ ?_;simp)|refine q_ ?_
 rw[Z0 (fun k=>Ef (Qw l k))];refine Qr (Qd (sl':=[(0,.i T),(1,LP l),(4,.vptr 0 0),(5,.vptr 2 0),(17,.i T),(18,.i (0:Nat))]) ?_ (by simp));refine Qq (P:=Tryz.prog) (F:=fun(u:Nat×List AObj)=>⟨[(0,.i T),(1,LP l),(4,.vptr 0 0),(5,.vptr 2 0),(17,.i T),(18,.i u.1)],u.2⟩)
  (fun u=>u.1≤T∧3≤u.2.length∧u.2[0]? =some (.vars [.nils])∧u.2[1]? =some (.arr 171 1 (Dp (fun k=>Ef (Qw l k)) T u.1))∧u.2[2]? =some (.vars [.sl 1 1 0 T])) (fun u=>T - u.1) ?_ (0,_) ⟨by simp,by simp,rfl,rfl,rfl⟩
 rintro⟨i,H2⟩ ⟨hi,hH,g0,g1,g2⟩ ih;simp only at hi hH g0 g1 g2 ih ⊢;repeat first|(refine r_ ?_;simp)|refine q_ ?_
 refine Qa rfl (fun y4=> ?_) (fun y5=> ?_)
 ·have z7:i<T:=by simpa using y4
  have hw:IntKind.i64.wrap ((i:Int)+1)=i+1:=wrap_i64 _ (by omega) (by omega);have zd:=w0e (fun k=>Ef (Qw l k)) z7;have zr:=N7 (fun k=>Ef (Qw l k)) z7;have y6:=Mi (fun k=>Ef (Qw l k)) T i;have zi:=hn i z7;have zt:=fun H'=>ih (i+1,H');simp only[←zd]at zt;clear zd;generalize Dp (fun k=>Ef (Qw l k)) T i=row at *
  repeat first|(refine r_ ?_;simp)|refine q_ ?_
  refine Qx (sl':=[(0,.i T),(1,LP l),(4,.vptr 0 0),(5,.vptr 2 0),(6,.i i),(7,.nils),(17,.i T),(18,.i i),(21,LP l),(22,.i l.length),(23,.i (0:Nat))]) ?_ (by simp);refine Wg 7 187 2 rfl ?_;simp;have zh:=SL.start H2 187 2;refine Qr (Qd (sl':=[(0,.i T),(1,LP l),(4,.vptr 0 0),(5,.vptr 2 0),(6,.i i),(7,.sl H2.length 2 0 (Qw (l.take 0) i).length),(17,.i T),(18,.i i),(21,LP l),(22,.i l.length),(23,.i (0:Nat))]) ?_ (by simp[Uk]));refine Qq (P:=Tryz.prog) (F:=fun(u:Nat×Nat×List AObj)=>⟨[(0,.i T),(1,LP l),(4,.vptr 0 0),(5,.vptr 2 0),(6,.i i),(7,.sl u.2.1 2 0 (Qw (l.take u.1) i).length),(17,.i T),(18,.i i),(21,LP l),(22,.i l.length),(23,.i u.1)],u.2.2⟩)
   (fun u=>u.1≤l.length∧SL H2 u.2.2 u.2.1 187 2 ((Qw (l.take u.1) i).map encIv)) (fun u=>l.length - u.1) ?_ (0,H2.length,_) ⟨wK _,by rw[wA,Uk];exact zh⟩
  rintro⟨j,q,G⟩ ⟨hj,g⟩ ih2;simp only at hj g ih2 ⊢;repeat first|(refine r_ ?_;simp)|refine q_ ?_
  refine Qa rfl (fun za=> ?_) (fun zb=> ?_)
  ·have z1:j<l.length:=by simpa using za
   have ze:IntKind.i64.wrap ((j:Int)+1)=j+1:=wrap_i64 _ (by omega) (by omega);have hp:=hl _ (zT z1);have zj:i<l[j].length:=by rw[hp.1];exact z7
   have zc:=Po z1 zj;have zk:(Qw (l.take (j+1)) i).length≤1000000:=by refine yY ?_ zi;unfold Qw;rw[←wd (j+1) l,wP,yS,wd];omega
   rw[zc,yS]at zk;have z6:=fun q' G'=>ih2 (j+1,q',G');simp only[zc]at z6;clear zc;have zu:(ss encP l)[j]? =some (encP l[j]):=by simp[z1]
   have zv:∀hh,(ss encP l)[j]'hh=encP l[j]:=fun hh=>by simp
   generalize l[j]=pj at *
   have y7:(pj.map encL)[i]? =some (encL pj[i]):=by simp[zj]
   have y8:∀hh,(pj.map encL)[i]'hh=encL pj[i]:=fun hh=>by simp
   generalize pj[i]=s at *;generalize Qw (l.take j) i=acc at *
   have zw:(acc.map encIv).length=acc.length:=by simp
   simp only[encP]at zu zv;repeat first|(refine r_ ?_;simp[zu,zv,z1,zj,y7,y8])|refine q_ ?_
   have g2:=g.add [.vars [.list (pj.map encL)]];generalize G++[AObj.vars [.list (pj.map encL)]]=Y at *;generalize zl:acc.map encIv=ac at *;refine Qh tOk rfl rfl Pe rfl Dn rfl (by decide) (by decide) rfl rfl rfl ?_
   simp[Qb g2.arr,Qj g2.arr,g2.arr,zw];refine⟨⟨fun y hy=> ?_,by simp[zw];omega⟩,?_⟩
   ·obtain⟨x,_,rfl⟩:=zX.1 hy;exact⟨rfl,rfl⟩
   repeat first|(refine r_ ?_;simp[ze])|refine q_ ?_
   refine Qd (sl':=[(0,.i T),(1,LP l),(4,.vptr 0 0),(5,.vptr 2 0),(6,.i i),(7,.sl Y.length 2 0 (acc++s).length),(17,.i T),(18,.i i),(21,LP l),(22,.i l.length),(23,.i (j+1:Nat))]) ?_ (by simp);refine z6 Y.length _ ⟨by omega,?_⟩ (by omega);rw[xF,zl];exact g2.put [] (ac++s.map encIv) (by simp)
  ·have z8:j=l.length:=by simp at zb;omega
   subst z8;rw[xD]at g ⊢;have zm:∀y∈Qw l i,Ie y∧y.lo≤y.hi:=fun y hy=>Cf hl hy;generalize yg:Qw l i=L at *
   have zn:=g.ge;repeat first|(refine r_ ?_;simp)|refine q_ ?_
   refine Q4 rfl rfl (c06 G q L g.arr zi (fun y hy=>(zm y hy).1)) rfl ?_;rintro r H' ⟨rfl,l',h1,h2,rfl⟩;simp;have hl':l'.length≤1000000:=by rw[h1.length_eq];exact zi
   have y9:=h1.length_eq;have zo:∀y∈l',Ie y:=fun y hy=>(zm y (h1.mem_iff.1 hy)).1;have zf:=S7 L l' (fun y hy=>(zm y hy).2) h1 h2;rw[←y9];have gq:=Qg g.arr (.arr 187 2 (l'.map encIv));have gk:∀j,j<H2.length→(G.set q (.arr 187 2 (l'.map encIv)))[j]? =H2[j]? :=fun j hj=>by rw[zH (by omega)];exact g.keep j hj
   generalize G.set q (.arr 187 2 (l'.map encIv))=G1 at *
   repeat first|(refine r_ ?_;simp)|refine q_ ?_
   refine Qx (sl':=[(0,.i T),(1,LP l),(4,.vptr 0 0),(5,.vptr 2 0),(6,.i i),(10,.nils),(17,.i T),(18,.i i),(37,.sl q 2 0 l'.length),(38,.i l'.length),(39,.i (0:Nat))]) ?_ (by simp);refine Wl q gq ?_;simp[AV.fz];rw[zZ (by simp)];have ya:∀j,j<H2.length→(G1.set q .dead)[j]? =H2[j]? :=fun j hj=>by rw[zH (by omega)];exact gk j hj
   have yh:H2.length≤(G1.set q .dead).length:=by have:=Qi gq;simp;omega
   generalize G1.set q .dead=K at *;refine Wg 10 187 2 rfl ?_
   simp;have zh:=SL.start K 187 2;refine Qr (Qd (sl':=[(0,.i T),(1,LP l),(4,.vptr 0 0),(5,.vptr 2 0),(6,.i i),(10,.sl K.length 2 0 (Qy [] (l'.take 0)).length),(17,.i T),(18,.i i),(37,LIv l'),(38,.i l'.length),(39,.i (0:Nat))]) ?_ (by simp[Qy]));refine Qq (P:=Tryz.prog) (F:=fun(u:Nat×Nat×List AObj)=>⟨[(0,.i T),(1,LP l),(4,.vptr 0 0),(5,.vptr 2 0),(6,.i i),(10,.sl u.2.1 2 0 (Qy [] (l'.take u.1)).length),(17,.i T),(18,.i i),(37,LIv l'),(38,.i l'.length),(39,.i u.1)],u.2.2⟩)
    (fun u=>u.1≤l'.length∧SL K u.2.2 u.2.1 187 2 ((Qy [] (l'.take u.1)).map encIv)) (fun u=>l'.length - u.1) ?_ (0,K.length,_) ⟨wK _,by rw[wA,Qy,List.foldl_nil];exact zh⟩
   clear g gq gk ih2 zh zn;clear G G1 q;rintro⟨j,p,G⟩ ⟨hj,g⟩ ih2;simp only at hj g ih2 ⊢;repeat first|(refine r_ ?_;simp)|refine q_ ?_
   refine Qa rfl (fun za=> ?_) (fun zb=> ?_)
   ·have z1:j<l'.length:=by simpa using za
    have ze:IntKind.i64.wrap ((j:Int)+1)=j+1:=wrap_i64 _ (by omega) (by omega);have zd:Qy [] (l'.take (j+1))=Ww (Qy [] (l'.take j)) l'[j]:=by rw[z_ z1,U5]
    have zx:(Qy [] (l'.take j)).length≤j:=yY (Rl _ _) (by simp;omega);have zp:∀y∈Qy [] (l'.take j),Ie y:=I8 _ _ (by simp) (fun y hy=>zo y (ww hy));have z6:=fun p' G'=>ih2 (j+1,p',G');simp only[zd]at z6;clear zd;generalize Qy [] (l'.take j)=acc at *;generalize hx:l'[j]=x at *
    repeat first|(refine r_ ?_;simp[z1,hx])|refine q_ ?_
    rcases List.eq_nil_or_concat acc with rfl|⟨ini,y,rfl⟩
    ·refine Qk tOk mixed [] (.val 0 (.val 1 (.val 2 (.val 3 (.val 4 (.val 5 (.val 6 (.val 7 (.val 8 (.val 9 (.val 10 (.val 11 (.val 12 (.val 13 (.done))))))))))))))) rfl (by kernel_rfl) ?_;simp;refine Qm rfl ?_;simp;repeat first|(refine r_ ?_;simp)|refine q_ ?_
     refine Qh tOk rfl rfl Pe rfl Dn rfl (by decide) (by decide) rfl rfl rfl ?_;simp[Qb g.arr,Qj g.arr];refine⟨by simp[Wp,Qb g.arr,Qj g.arr]<;>omega,?_⟩;repeat first|(refine r_ ?_;simp[ze])|refine q_ ?_
     refine Qd (sl':=[(0,.i T),(1,LP l),(4,.vptr 0 0),(5,.vptr 2 0),(6,.i i),(10,.sl (G.length+2) 2 0 1),(17,.i T),(18,.i i),(37,LIv l'),(38,.i l'.length),(39,.i (j+1:Nat))]) ?_ (by simp);have:=z6 (G.length+2) _ ⟨by omega,by rw[Ww];exact g.put [AObj.vars [AV.i x.lo,AV.i x.hi],AObj.arr 187 2 [encIv x]] _ rfl⟩ (by omega);rw[Ww]at this;simpa using this
    ·have yi:=(W4 _).1 (zp y (by simp)).2;have zy:IntKind.i64.wrap (y.hi+1)=y.hi+1:=wrap_i64 _ (by omega) (by omega);have gA:=g.arr;rw[List.concat_eq_append]at g gA z6 zx ⊢;have hlen:(ini++[y]).length=ini.length+1:=by simp
     rw[hlen]at zx ⊢;have zz:IntKind.i64.wrap (ini.length:Int)=ini.length:=wrap_i64 _ (by omega) (by omega);have hg:((ini++[y]).map encIv)[ini.length]? =some (encIv y):=by simp
     have zg:(ini.length:Int)<ini.length+1:=by omega
     refine Qk tOk mixed [] (.val 0 (.val 1 (.val 2 (.val 3 (.val 4 (.val 5 (.val 6 (.val 7 (.val 8 (.val 9 (.val 10 (.val 11 (.val 12 (.val 13 (.done))))))))))))))) rfl (by kernel_rfl) ?_;simp[Qb gA,zz,hg,zy,zg];refine Qa rfl (fun h1=> ?_) (fun h1=> ?_)
     ·repeat first|(refine r_ ?_;simp)|refine q_ ?_
      refine Qk tOk mixed [14] (.val 0 (.val 1 (.val 2 (.val 3 (.val 4 (.val 5 (.val 6 (.val 7 (.val 8 (.val 9 (.val 10 (.val 11 (.val 12 (.val 13 (.one 14 (.done)))))))))))))))) rfl (by kernel_rfl) ?_;simp[Qb gA,zz,hg,zy,zg,Qj gA];repeat first|(refine r_ ?_;simp[ze])|refine q_ ?_
      have hR:Ww (ini++[y]) x=ini++[⟨y.lo,if y.hi<x.hi then x.hi else y.hi⟩]:=by rw[W1,if_pos (by simpa using h1)]
      rw[hR]at z6;refine Qd (sl':=[(0,.i T),(1,LP l),(4,.vptr 0 0),(5,.vptr 2 0),(6,.i i),(10,.sl p 2 0 (ini.length+1)),(17,.i T),(18,.i i),(37,LIv l'),(38,.i l'.length),(39,.i (j+1:Nat))]) ?_ (by simp);have:=z6 p _ ⟨by omega,g.upd [AObj.vars [AV.i x.lo,AV.i x.hi]] _⟩ (by omega);simpa using this
     ·repeat first|(refine r_ ?_;simp)|refine q_ ?_
      refine Qh tOk rfl rfl Pe rfl Dn rfl (by decide) (by decide) rfl rfl rfl ?_;simp[Qb gA,Qj gA];refine⟨by simp[Wp,Qb gA,Qj gA]<;>omega,?_⟩;repeat first|(refine r_ ?_;simp[ze])|refine q_ ?_
      have hR:Ww (ini++[y]) x=ini++[y]++[x]:=by rw[W1,if_neg (by simpa using h1)]
      rw[hR]at z6;refine Qd (sl':=[(0,.i T),(1,LP l),(4,.vptr 0 0),(5,.vptr 2 0),(6,.i i),(10,.sl (G.length+2) 2 0 (ini.length+2)),(17,.i T),(18,.i i),(37,LIv l'),(38,.i l'.length),(39,.i (j+1:Nat))]) ?_ (by simp);have:=z6 (G.length+2) _ ⟨by omega,g.put [AObj.vars [AV.i x.lo,AV.i x.hi],AObj.arr 187 2 [encIv x]] _ rfl⟩ (by omega);simpa using this
   ·have z8:j=l'.length:=by simp at zb;omega
    subst z8;rw[xD,zf]at g ⊢;refine Wl p g.arr ?_;simp[AV.fz];rw[zZ (by simp)];have yj:=Qi g.arr;have yb:=g.ge;have yk:∀j,j<H2.length→(G.set p .dead)[j]? =H2[j]? :=fun j hj=>by rw[zH (by omega),g.keep j (by omega)];exact ya j hj
    have yl:3≤(G.set p .dead).length:=by simp;omega
    generalize G.set p .dead=Y at *
    have y0:=(yk 0 (by omega)).trans g0;have y1:=(yk 1 (by omega)).trans g1;have y2:=(yk 2 (by omega)).trans g2;have y1H:∀hh,Y[1]'hh= .arr 171 1 row:=fun hh=>(yJ hh).2 y1;have yc:∀hh,row[i]'hh= .nils:=fun hh=>(yJ hh).2 zr;repeat first|(refine r_ ?_;simp[y1,y2,y1H,z7,y6,zr,yc,hw])|refine q_ ?_
    refine Qd (sl':=[(0,.i T),(1,LP l),(4,.vptr 0 0),(5,.vptr 2 0),(17,.i T),(18,.i (i+1:Nat))]) ?_ (by simp);exact zt _ ⟨by omega,by simp;omega,Qc (by decide) y0 _,Qg y1 _,Qc (by decide) y2 _⟩ (by omega)
 ·have zq:i=T:=by simp at y5;omega
  subst zq;rw[Lz]at *
  have yd:(yW i).map (fun k=>Ef (Qw l k))=Uh i l:=by unfold Uh;rfl
  rw[yd]at *;refine We 1 g1 2 g2 ?_
  have y3:=Mh i l;have e0:∀Y,((H2.set 1 AObj.dead).set 2 Y)[0]? =some (AObj.vars [AV.nils]):=fun Y=>Qc (by decide) (Qc (by decide) g0 _) _;have ye:∀Y hh,((H2.set 1 AObj.dead).set 2 Y)[0]'hh=AObj.vars [AV.nils]:=fun Y hh=>by have:=e0 Y;rw[zP hh]at this;exact Option.some.inj this
  have e2:∀Y,((H2.set 1 AObj.dead).set 2 Y)[2]? =some Y:=fun Y=>Qg (Qc (by decide) g2 _) _;have e3:∀Y Z,(((H2.set 1 AObj.dead).set 2 Y).set 0 Z)[0]? =some Z:=fun Y Z=>Qg (e0 Y) _;simp[y3];rw[zZ (by simp[y3])];repeat first|(refine r_ ?_;simp[e0,ye,e2,e3])|refine q_ ?_
  unfold Uh;rw[vC]
end Go.Abs
namespace Go.Abs
open Go Go.Proofs Go.Maps Go.RowKit
def L9(a:Aut)(cl:List Nat)(s:Int)(j t:Nat):List Prd:=(((Q8 a s).take j).filter fun m=>decide (clD cl m=t)).map (·.on)
def Ho(ks:List Nat)(t:Nat):List Nat:=if t∈ks then ks else ks++[t]
def Jv(a:Aut)(cl:List Nat)(s:Int)(j:Nat):List Nat:=((Q8 a s).take j).foldl (fun ks m=>Ho ks (clD cl m)) []
theorem c0m(a:Aut)(cl:List Nat)(s:Int)(t:Nat):L9 a cl s (Q8 a s).length t=O4 a cl s t:=by simp[L9,O4]
theorem g0n(a:Aut)(cl:List Nat)(s:Int){j:Nat}(h:j<(Q8 a s).length):L9 a cl s (j+1)=fun t=>if t=clD cl (Q8 a s)[j]then L9 a cl s j (clD cl (Q8 a s)[j])++[(Q8 a s)[j].on]else L9 a cl s j t:=by
 funext t;unfold L9;rw[z_ h,uf,xF,List.filter_cons,List.filter_nil];by_cases e:t=clD cl (Q8 a s)[j]
 ·subst e;simp
 ·rw[if_neg e,if_neg (by simpa using fun k=>e k.symm)];simp
theorem j0z(a:Aut)(cl:List Nat)(s:Int):Jv a cl s 0=[]:=by simp[Jv]
theorem j09(a:Aut)(cl:List Nat)(s:Int){j:Nat}(h:j<(Q8 a s).length):Jv a cl s (j+1)=Ho (Jv a cl s j) (clD cl (Q8 a s)[j]):=by unfold Jv;rw[z_ h,vz];rfl
theorem Nz{ks:List Nat}{t u:Nat}:u∈Ho ks t↔u∈ks∨u=t:=by
 unfold Ho;split
 ·rename_i h;exact⟨.inl,fun k=>k.elim id (fun e=>e▸h)⟩
 ·simp
theorem v18{ks:List Nat}{t:Nat}(h:ks.Nodup):(Ho ks t).Nodup:=by
 unfold Ho;split
 ·exact h
 ·rename_i hn;rw[vT];refine⟨h,by simp,fun x hx y hy e=>hn ?_⟩;rw[zW]at hy;rw[←hy,←e];exact hx
theorem k08(cl:List Nat):∀(l:List Mv) (ks:List Nat) (t:Nat),t∈l.foldl (fun ks m=>Ho ks (clD cl m)) ks↔t∈ks∨∃m∈l,clD cl m=t
 |[],ks,t=>by simp
 |m::l,ks,t=>by
  rw[xY,k08 cl l,Nz];simp only[yL];constructor
  ·rintro((h|rfl)|⟨m',h1,h2⟩)
   ·exact .inl h
   ·exact .inr ⟨m,.inl rfl,rfl⟩
   ·exact .inr ⟨m',.inr h1,h2⟩
  ·rintro(h|⟨m',rfl|h1,h2⟩)
   ·exact .inl (.inl h)
   ·exact .inl (.inr h2.symm)
   ·exact .inr ⟨m',h1,h2⟩
theorem d1k(cl:List Nat):∀(l:List Mv) (ks:List Nat),ks.Nodup→(l.foldl (fun ks m=>Ho ks (clD cl m)) ks).Nodup
 |[],_,h=>h
 |m::l,ks,h=>d1k cl l _ (v18 h)
theorem L2{a:Aut}{cl:List Nat}{s:Int}{j t:Nat}:t∈Jv a cl s j↔∃m∈(Q8 a s).take j,clD cl m=t:=by unfold Jv;rw[k08];simp
theorem x1z(a:Aut)(cl:List Nat)(s:Int)(j:Nat):(Jv a cl s j).Nodup:=d1k cl _ _ List.nodup_nil
theorem c0y{a:Aut}{cl:List Nat}{s:Int}{j t:Nat}(h:t∉Jv a cl s j):L9 a cl s j t=[]:=by unfold L9;rw[List.map_eq_nil_iff,List.filter_eq_nil_iff];intro m hm k;exact h (L2.2 ⟨m,hm,by simpa using k⟩)
attribute [simp] q2h
def kvG(ks:List Nat)(gs:Nat→List Prd)(L:Nat→Nat):List (AV×AV):=ks.map fun t:Nat=>(.i t,.sl (L t) 1 0 (gs t).length)
theorem k12{ks:List Nat}(hn:ks.Nodup){gs:Nat→List Prd}{L:Nat→Nat}{j t np:Nat}(hj:ks[j]? =some t)(p:Prd):
  kvG ks (fun u=>if u=t then gs t++[p]else gs u) (fun u=>if u=t then np else L u)=(kvG ks gs L).set j (.i t,.sl np 1 0 ((gs t).length+1)):=by
 unfold kvG;refine xX fun i=> ?_;obtain⟨z6,z1⟩:=zE.1 hj;by_cases hi:i<ks.length
 ·by_cases e:i=j
  ·subst e;rw[zU (by simpa using hi),yI,hj];simp
  ·rw[zH (Ne.symm e),yI,yI,zP hi];have:ks[i]≠t:=fun k=>e ((u6 hn).1 (k.trans z1.symm));simp[this]
 ·rw[xA (by simp;omega),xA (by simp;omega)]
theorem j1g{ks:List Nat}{gs:Nat→List Prd}{L:Nat→Nat}{t np:Nat}(ht:t∉ks)(h0:gs t=[])(p:Prd):
  kvG (ks++[t]) (fun u=>if u=t then gs t++[p]else gs u) (fun u=>if u=t then np else L u)=kvG ks gs L++[(.i t,.sl np 1 0 1)]:=by
 unfold kvG;rw[xF]
 congr 1
 ·refine xP fun u hu=> ?_;have:u≠t:=fun e=>ht (e▸hu);simp[this]
 ·simp[h0]
structure MG (K:List AObj) (M:Nat) (ks:List Nat) (gs:Nat→List Prd) (L:Nat→Nat) (H:List AObj):Prop where
 map:H[M]? =some (.mv (kvG ks gs L))
 leaf:∀t∈ks,H[L t]? =some (.arr 76 1 ((gs t).map encP))
 inj:∀t t',t∈ks→t'∈ks→L t=L t'→t=t'
 ne:∀t∈ks,L t≠M
 geM:K.length≤M
 geL:∀t∈ks,K.length≤L t
 keep:∀j,j<K.length→H[j]? =K[j]?
theorem MG.grow{K:List AObj}{M:Nat}{ks:List Nat}{gs:Nat→List Prd}{L:Nat→Nat}{H:List AObj}(h:MG K M ks gs L H)(E:List AObj):MG K M ks gs L (H++E):=by have hm:=Qi h.map;have z1:=h.geM;exact⟨Qb h.map E,fun t ht=>Qb (h.leaf t ht) E,h.inj,h.ne,h.geM,h.geL,fun j hj=>by rw[zI (by omega)];exact h.keep j hj⟩
theorem MG.put {K:List AObj} {M:Nat} {ks:List Nat} {gs:Nat→List Prd} {L:Nat→Nat} {H H':List AObj} (h:MG K M ks gs L H) {t:Nat} {p:Prd} {np:Nat} (zb:H.length≤np)
  (z8:H'[M]? =some (.mv (kvG (Ho ks t) (fun u=>if u=t then gs t++[p]else gs u) (fun u=>if u=t then np else L u)))) (z6:H'[np]? =some (.arr 76 1 ((gs t++[p]).map encP)))
  (hk:∀j,j<H.length→j≠M→(t∈ks→j≠L t)→H'[j]? =H[j]?):MG K M (Ho ks t) (fun u=>if u=t then gs t++[p]else gs u) (fun u=>if u=t then np else L u) H':=by
 have hm:=Qi h.map;have hL:=fun u hu=>Qi (h.leaf u hu);have z1:∀u,u∈Ho ks t→u≠t→u∈ks:=fun u hu za=>(Nz.1 hu).resolve_right za;refine⟨z8,fun u hu=> ?_,fun u v hu hv e=> ?_,fun u hu=> ?_,h.geM,fun u hu=> ?_,fun j hj=> ?_⟩
 ·by_cases e:u=t
  ·subst e;simpa using z6
  ·simp only[e,if_false];have z7:=z1 u hu e;rw[hk _ (hL u z7) (h.ne u z7) (fun ht k=>e (h.inj u t z7 ht k))];exact h.leaf u z7
 ·by_cases e1:u=t
  ·by_cases e2:v=t
   ·rw[e1,e2]
   ·simp only[e1,e2,if_true,if_false]at e;have:=hL v (z1 v hv e2);omega
  ·by_cases e2:v=t
   ·simp only[e1,e2,if_true,if_false]at e;have:=hL u (z1 u hu e1);omega
   ·simp only[e1,e2,if_false]at e;exact h.inj u v (z1 u hu e1) (z1 v hv e2) e
 ·by_cases e:u=t
  ·simp only[e,if_true];omega
  ·simp only[e,if_false];exact h.ne u (z1 u hu e)
 ·have:=h.geM;by_cases e:u=t
  ·simp only[e,if_true];omega
  ·simp only[e,if_false];exact h.geL u (z1 u hu e)
 ·have zc:=h.geM;rw[hk j (by omega) (by omega) (fun ht e=>by have:=h.geL t ht;omega)];exact h.keep j hj
section
variable {nt k:Nat} {S:AS} {ops:Array Oper} {o:Oper} {R:AS→Prop}
theorem v0d{ks:List Nat}(hk:∀t∈ks,t≤1000000)(gs:Nat→List Prd)(L:Nat→Nat):∀p∈kvG ks gs L,isKey Tryz.prog 3 p.1:=fun p hp=>by obtain⟨t,ht,rfl⟩:=zX.1 hp;exact Ym ⟨by omega,by have:=hk t ht;omega⟩
theorem Gg {wr:Bool} (hw:Q3 ops S o=some true) (hd:Wy nt o=true) {x ix:Operand} (ho:o.op= .lookup 241 x ix false) {id:Nat} (hx:rho S.sl x=some (.mref id)) {t:Nat} (z1:rho S.sl ix=some (.i t)) {ks:List Nat} {gs:Nat→List Prd} {L:Nat→Nat} (z6:S.hp[id]? =some (.mv (kvG ks gs L)))
  (hk:∀t∈ks,t≤1000000) (ht:t≤1000000) (hR:R (S.putD o.dst (if t∈ks then .sl (L t) 1 0 (gs t).length else .nils))):Wq Tryz.prog nt k wr ops o S R:=by
 refine L4 tOk hw hd ho q2h rfl T91 P1 hx z1 z6 (Ym ⟨by omega,by omega⟩) (v0d hk gs L) (z:= .nils) (fun w I=> .nils ..) (fun j p hp he=> ?_) (fun z7=> ?_)
 ·unfold kvG at hp;rw[yI]at hp;obtain⟨u,hu,rfl⟩:=zY.1 hp;have z8:u=t:=by simp at he;omega
  subst z8;rw[if_pos (zL hu)]at hR;exact hR
 ·have:t∉ks:=fun h=>z7 _ (zX.2 ⟨t,h,rfl⟩) rfl;rw[if_neg this]at hR;exact hR
theorem J9 (hw:Q3 ops S o=some true) (hd:Wy nt o=true) {x ix y:Operand} (ho:o.op= .mapUpdate 241 x ix y) {id:Nat} (hx:rho S.sl x=some (.mref id)) {t:Nat} (z6:rho S.sl ix=some (.i t)) {np n:Nat} (hy:rho S.sl y=some (.sl np 1 0 n)) {ks:List Nat} {gs:Nat→List Prd} {L:Nat→Nat} (z7:S.hp[id]? =some (.mv (kvG ks gs L)))
  (hk:∀t∈ks,t≤1000000) (ht:t≤1000000) (z8:ks.Nodup) (h0:t∉ks→gs t=[]) (p:Prd) (hn:n=(gs t).length+1) (hR:R (({ S with hp:=S.hp.set id (.mv (kvG (Ho ks t) (fun u=>if u=t then gs t++[p]else gs u) (fun u=>if u=t then np else L u))) }:AS).putD o.dst (.tup []))):Wq Tryz.prog nt k true ops o S R:=by
 subst hn;refine Df tOk hw hd ho q2h rfl P1 hx z6 hy z7 (Ym ⟨by omega,by omega⟩) (v0d hk gs L) (fun j q hq he=> ?_) (fun za=> ?_)
 ·unfold kvG at hq;rw[yI]at hq;obtain⟨u,hu,rfl⟩:=zY.1 hq;have zb:u=t:=by simp at he;omega
  subst zb;have ha:Ho ks u=ks:=by unfold Ho;rw[if_pos (zL hu)]
  rw[ha,k12 z8 hu p]at hR;exact hR
 ·have z1:t∉ks:=fun h=>za _ (zX.2 ⟨t,h,rfl⟩) rfl;have ha:Ho ks t=ks++[t]:=by unfold Ho;rw[if_neg z1]
  rw[ha,j1g z1 (h0 z1) p]at hR;rw[h0 z1];exact hR
end
end Go.Abs
namespace Go.Abs
open Go Go.Proofs Go.Maps Go.RowKit
def kvX(ks:List Nat)(gs:Nat→List Prd)(L:Nat→Nat)(k:Nat):List (AV×AV):=ks.mapIdx fun i (t:Nat)=>(.i t,if i<k then .list ((gs t).map encP)else .sl (L t) 1 0 (gs t).length)
theorem z1p(ks:List Nat)(gs:Nat→List Prd)(L:Nat→Nat):kvX ks gs L 0=kvG ks gs L:=by unfold kvX kvG;refine xX fun i=> ?_;rw[vO,yI];cases ks[i]? <;>simp
theorem k1v(ks:List Nat)(gs:Nat→List Prd)(L:Nat→Nat):kvX ks gs L ks.length=ks.map fun t:Nat=>(.i t,.list ((gs t).map encP)):=by
 unfold kvX;refine xX fun i=> ?_;rw[vO,yI];by_cases h:i<ks.length
 ·rw[zP h];simp[h]
 ·rw[xA (by omega)];simp
theorem y1b{ks:List Nat}(hn:ks.Nodup){gs:Nat→List Prd}{L:Nat→Nat}(z1:∀t t',t∈ks→t'∈ks→L t=L t'→t=t'){k t:Nat}(hk:ks[k]? =some t):
  (kvX ks gs L k).map (fun p=>(p.1,p.2.fz (L t) 1 ((gs t).map encP)))=kvX ks gs L (k+1):=by
 obtain⟨z7,z6⟩:=zE.1 hk;unfold kvX;refine xX fun i=> ?_;rw[yI,vO,vO];by_cases h:i<ks.length
 ·rw[zP h];simp only[Option.map_some];by_cases e:i=k
  ·subst e;rw[z6,if_neg (by omega),if_pos (by omega),AV.fz,if_pos ⟨rfl,rfl,by simp⟩];simp[zZ]
  ·by_cases h2:i<k
   ·rw[if_pos h2,if_pos (by omega)];simp[AV.fz]
   ·rw[if_neg h2,if_neg (by omega),AV.fz,if_neg];rintro⟨e2,_⟩;have:=z1 _ _ (zT h) (zL hk) e2;exact e ((u6 hn).1 (this.trans z6.symm))
 ·rw[xA (by omega)];simp
section
variable {P:Program} [Env P] {nt kk:Nat} {cd:Code} {Q:Exit→AS→Prop}
theorem MG.freeze {M:Nat} {ks:List Nat} {gs:Nat→List Prd} {L:Nat→Nat} {sl:List (Nat×AV)} (hn:ks.Nodup) (z6:∀t t',t∈ks→t'∈ks→L t=L t'→t=t') (z8:∀t∈ks,L t≠M)
  (za:∀t∈ks,sl.map (fun p=>(p.1,p.2.fz (L t) 1 ((gs t).map encP)))=sl):∀(d k:Nat) (H:List AObj),k+d=ks.length→H[M]? =some (.mv (kvX ks gs L k))→(∀i t,k≤i→ks[i]? =some t→H[L t]? =some (.arr 76 1 ((gs t).map encP)))→
  (∀H',H'[M]? =some (.mv (kvX ks gs L ks.length))→H'.length=H.length→(∀j,j<H.length→j≠M→(∀t∈ks,j≠L t)→H'[j]? =H[j]?)→AWP P nt kk cd Q ⟨sl,H'⟩)→AWP P nt kk cd Q ⟨sl,H⟩
 |0,k,H,hd,hm,hl,h=>by
  have:k=ks.length:=by omega
  subst this;exact h H hm rfl fun _ _ _ _=>rfl
 |d+1,k,H,hd,hm,hl,h=>by
  have zb:k<ks.length:=by omega
  have hk:ks[k]? =some ks[k]:=zP zb;have z1:=zT zb;generalize ks[k]=t at *
  have zf:=hl k t (zV _) hk;have zg:=Qi hm;refine U6 (L t) zf M hm (Ne.symm (z8 t z1)) rfl ?_;rw[za t z1,AObj.fz,y1b hn z6 hk];refine MG.freeze hn z6 z8 za d (k+1) _ (by omega) (zU (by simpa using zg)) (fun i u hi hu=> ?_) fun H' zh z7 zi=>h H' zh (by simpa using z7) fun j hj zc zd=> ?_
  ·have ze:=zL hu;rw[zH (Ne.symm (z8 u ze)),zH (fun e2=> ?_)]
   ·exact hl i u (by omega) hu
   ·have e3:=z6 t u z1 ze e2;subst e3;obtain⟨h1,h2⟩:=zE.1 hk;obtain⟨h3,h4⟩:=zE.1 hu;have:=(u6 hn).1 (h2.trans h4.symm);omega
  ·rw[zi j (by simpa using hj) zc zd,zH (Ne.symm zc),zH (Ne.symm (zd t z1))]
end
end Go.Abs
namespace Go.Abs
theorem Nh{o:List Nat}{c:Nat}(h:c∈o):∃i,Zg o c=i∧o[i]? =some c∧∀j,j<i→o[j]? ≠some c:=by
 unfold Zg;cases hf:o.findIdx? fun d=>decide (d=c)with
 |none=>rw[vE]at hf;have:=hf c h;simp at this
 |some i=>rw[List.findIdx?_eq_some_iff_getElem]at hf;obtain⟨h1,h2,h3⟩:=hf;refine⟨i,rfl,by rw[zP h1];simpa using h2,fun j hj e=> ?_⟩;obtain⟨hl,e2⟩:=zE.1 e;have:=h3 j hj;rw[e2]at this;simp at this
theorem Mx{o:List Nat}{c:Nat}(h:c∈o)(r:List Nat):Zg (o++r) c=Zg o c:=by
 obtain⟨i,e,h1,h2⟩:=Nh h;obtain⟨k,e',h3,h4⟩:=Nh (o:=o++r) (xL r h);rw[e,e'];have z1:=Es h1;rcases Nat.lt_trichotomy i k with hl|hl|hl
 ·have:=h4 i hl;rw[zI z1]at this;exact absurd h1 this
 ·exact hl.symm
 ·rw[zI (by omega)]at h3;exact absurd h3 (h2 k hl)
theorem v0k{o:List Nat}{c:Nat}(h:c∉o):Zg (o++[c]) c=o.length:=by
 obtain⟨k,e',h3,h4⟩:=Nh (o:=o++[c]) (c:=c) (by simp);rw[e'];have hk:=Es h3;simp at hk;by_cases hl:k<o.length
 ·rw[zI hl]at h3;exact absurd (zL h3) h
 ·omega
theorem d07{o:List Nat}{c d:Nat}(h:c∈o):Zg (Dv o d) c=Zg o c:=by obtain⟨r,e,_⟩:=D0 o d;rw[e,Mx h]
theorem Gr{o:List Nat}{l:List Mv}{j:Nat}(h:j<l.length):Wk o (l.take (j+1))=Dv (Wk o (l.take j)) l[j].dst.toNat:=by unfold Wk;rw[z_ h,vz];rfl
theorem y0b{o:List Nat}{l:List Mv}{m:Mv}(h:m∈l):m.dst.toNat∈Wk o l:=by
 induction l generalizing o with
 |nil=>cases h
 |cons x l ih=>
  have pre:∀(l:List Mv) (o:List Nat) (c:Nat),c∈o→c∈Wk o l:=by
   intro l;induction l with
   |nil=>intro o c hc;exact hc
   |cons y l ih2=>intro o c hc;refine ih2 (Dv o y.dst.toNat) c ?_;obtain⟨r,e,_⟩:=D0 o y.dst.toNat;rw[e];exact xL _ hc
  rcases yL.1 h with rfl|h
  ·exact pre l _ _ (w0b _ _)
  ·exact ih h
theorem Sa(o:List Nat)(l:List Mv):∃r,Wk o l=o++r:=by
 induction l generalizing o with
 |nil=>exact⟨[],by simp[Wk]⟩
 |cons x l ih=>obtain⟨r,e⟩:=ih (Dv o x.dst.toNat);obtain⟨r',e',_⟩:=D0 o x.dst.toNat;refine⟨r'++r,?_⟩;have:Wk o (x::l)=Wk (Dv o x.dst.toNat) l:=rfl;rw[this,e,e',xZ]
def qMv(o:List Nat)(l:List Mv)(n j:Nat):List Mv:=(l.take j).map fun m=>⟨n,(Zg (Wk o (l.take j)) m.dst.toNat:Nat),m.on⟩
theorem q0u(o:List Nat)(l:List Mv)(n:Nat):qMv o l n 0=[]:=by simp[qMv]
theorem u1a(o:List Nat)(l:List Mv)(n j:Nat):(qMv o l n j).length≤l.length:=by unfold qMv;simp;omega
theorem w14(o:List Nat)(l:List Mv)(n:Nat){j:Nat}(h:j<l.length):
  qMv o l n (j+1)=qMv o l n j++[⟨n,(Zg (Dv (Wk o (l.take j)) l[j].dst.toNat) l[j].dst.toNat:Nat),l[j].on⟩]:=by
 unfold qMv;rw[Gr h,z_ h,xF]
 congr 1
 refine xP fun m hm=> ?_;rw[d07 (y0b hm)]
theorem v1e(a:Aut){o:List Nat}{n:Nat}{c:Nat}(h:o[n]? =some c):qMv o (Ps a c) n (Ps a c).length=mvN a (Wk o (Ps a c)) n:=by
 unfold qMv mvN;rw[xD];obtain⟨r,e⟩:=Sa o (Ps a c);have:(Wk o (Ps a c)).getD n 0=c:=by rw[e,yV,zI (Es h),h];rfl
 rw[this]
structure QI (a:Aut) (i:Nat) (o:List Nat):Prop where
 nd:o.Nodup
 cl:∀c∈o,Za a c
 le:i≤o.length
 bfs:Gu a (a.fin.length+1 - i) i o=x0z a
 done:∀(j c:Nat),j<i→o[j]? =some c→∀m∈Ps a c,m.dst.toNat∈o
theorem QI.zero{a:Aut}(ha:Dfa a):QI a 0 [Yb a 0]:=
 ⟨by simp,fun c hc=>by rw[zW.1 hc];exact N8 ha ha.zero,by simp,rfl,fun j c hj=>by omega⟩
theorem QI.len{a:Aut}(ha:Dfa a){i:Nat}{o:List Nat}(h:QI a i o):o.length≤a.fin.length:=j03 ha h.nd h.cl
theorem QI.step{a:Aut}(ha:Dfa a){i:Nat}{o:List Nat}(h:QI a i o){c:Nat}(hc:o[i]? =some c):QI a (i+1) (Wk o (Ps a c)):=by
 have hl:=h.len ha;have hi:=Es hc;obtain⟨⟨r,h1,h2⟩,h3,h4⟩:=Pm (Ps a c) o h.nd;have z1:=h.cl c (zL hc);refine⟨h3,fun d hd=> ?_,by rw[h1,yS];omega,?_,fun j d hj hd m hm=> ?_⟩
 ·rw[h1]at hd;rcases yE.1 hd with hd|hd
  ·exact h.cl d hd
  ·obtain⟨m,hm,e⟩:=h2 d hd;obtain⟨x,_,e2,_,e4,_⟩:=Zp ha z1 hm;rw[e,e2];simpa using e4
 ·have:=h.bfs;rw[show a.fin.length+1 - i=(a.fin.length+1 - (i+1))+1 by omega,Gu,hc]at this;exact this
 ·rw[h1,zI (by omega)]at hd;by_cases e:j=i
  ·subst e;rw[hc]at hd;cases hd;exact h4 m hm
  ·rw[h1];exact xL _ (h.done j d (by omega) hd m hm)
theorem QI.fin{a:Aut}(ha:Dfa a){i:Nat}{o:List Nat}(h:QI a i o)(hi:i=o.length):o=x0z a:=by have hl:=h.len ha;have:=h.bfs;rw[show a.fin.length+1 - i=(a.fin.length - i)+1 by omega,Gu,xA (by omega)]at this;exact this
def qM(a:Aut)(i:Nat)(o:List Nat):List Mv:=(yW i).flatMap (mvN a o)
theorem v0w(a:Aut)(o:List Nat):qM a 0 o=[]:=by simp[qM]
theorem j1k{a:Aut}{i:Nat}{o:List Nat}(h:QI a i o){c:Nat}(hc:o[i]? =some c):qM a (i+1) (Wk o (Ps a c))=qM a i o++qMv o (Ps a c) i (Ps a c).length:=by
 rw[v1e a hc];unfold qM;rw[wT,wP]
 congr 1
 ·rw[tN,tN]
  congr 1
  refine xP fun j hj=> ?_;have z1:=xH.1 hj;have z6:j<o.length:=wp z1 h.le;obtain⟨r,e⟩:=Sa o (Ps a c);have g1:(Wk o (Ps a c)).getD j 0=o.getD j 0:=by rw[e,yV,yV,zI z6]
  unfold mvN;rw[g1];refine xP fun m hm=> ?_;have hg:o[j]? =some (o.getD j 0):=by simp[yV,z6]
  rw[e,Mx (h.done j _ z1 hg m hm)]
 ·simp
def qF(a:Aut)(o:List Nat):List Bool:=o.map fun c=>a.fin.getD (Iz a c) false
theorem v1y(a:Aut){o:List Nat}{i:Nat}{c:Nat}(l:List Mv)(h:o[i]? =some c):qF a ((Wk o l).take (i+1))=qF a (o.take i)++[a.fin.getD (Iz a c) false]:=by obtain⟨r,e⟩:=Sa o l;have hi:=Es h;rw[e,List.take_append_of_le_length (by omega)];obtain⟨_,rfl⟩:=zE.1 h;rw[z_ hi];unfold qF;rw[xF,xI,wY]
theorem Un(o:List Nat):Wk o []=o:=rfl
theorem z0r(o:List Nat)(l:List Mv){n:Nat}(h:l.length≤n):(Wk o l).length≤o.length+n:=by
 have key:∀(l:List Mv) (o:List Nat),(Wk o l).length≤o.length+l.length:=by
  intro l;induction l with
  |nil=>intro o;simp[Wk]
  |cons x l ih=>
   intro o;have h1:=ih (Dv o x.dst.toNat);have h2:(Dv o x.dst.toNat).length≤o.length+1:=by unfold Dv;split<;>simp
   have h3:Wk o (x::l)=Wk (Dv o x.dst.toNat) l:=rfl;rw[h3,y_];omega
 have:=key l o;omega
theorem f1l(a:Aut):qF a []=[]:=rfl
theorem x1o(a:Aut)(o:List Nat):(qF a o).length=o.length:=by simp[qF]
theorem d1b{a:Aut}(ha:Dfa a){i:Nat}{o:List Nat}(h:QI a i o):(qM a i o).length≤600000:=by
 have hl:=h.len ha;have hf:=ha.ok.fin;have hm:=ha.ok.mvs;have key:∀j,j≤i→((yW j).flatMap (mvN a o)).length≤j * 2048:=by
  intro j;induction j with
  |zero=>intro _;simp
  |succ j ih=>
   intro hj;rw[wT,wP,yS];have h1:=ih (by omega);have h2:(mvN a o j).length≤2048:=by
    have z1:j<o.length:=wp hj h.le;have hc:=h.cl _ (zT z1);have e:o.getD j 0=o[j]:=by simp[yV,z1]
    have h3:=Lt ha hc;have h4:(Q8 a (Iz a o[j]:Nat)).length≤a.mv.length:=xW _ _;unfold mvN;rw[yP,e];omega
   simp only[List.flatMap_cons,List.flatMap_nil,xS];omega
 have:=key i (zV _);have:=h.le;unfold qM;omega
theorem x18{a:Aut}(ha:Dfa a){i:Nat}{o:List Nat}(h:QI a i o)(hi:i=o.length):Ev a=⟨a.types,qF a (o.take i),qM a i o⟩:=by have:=h.fin ha hi;rw[hi,xD];unfold Ev Hi qF qM;rw[←this]
end Go.Abs
namespace Go.Abs
open Go Go.Proofs
def y23(l:List Int)(n:Int):Int:=if Zb (fun m:Int=>m==n) l<0 then 0 else Zb (fun m:Int=>m==n) l
theorem z19(l:List Nat)(c:Nat):Zb (fun m:Int=>m==(c:Int)) (T0 l)=match l.findIdx? fun d=>decide (d=c)with|some i=>(i:Int)|none=> -1:=by
 have e:(T0 l).findIdx? (fun m:Int=>m==(c:Int))=l.findIdx? fun d=>decide (d=c):=by
  rw[tF]
  congr 1
  funext x;simp only[Function.comp];rw[x_];simp;omega
 unfold Zb;rw[e];cases l.findIdx? fun d=>decide (d=c)<;>rfl
theorem q1q{l:List Nat}{c:Nat}(h:c∈l):Zb (fun m:Int=>m==(c:Int)) (T0 l)=(Zg l c:Nat):=by
 rw[z19];unfold Zg;cases hf:l.findIdx? fun d=>decide (d=c)with
 |none=>rw[vE]at hf;have:=hf c h;simp at this
 |some i=>rfl
end Go.Abs
namespace Go.Abs
open Go Go.Proofs Go.Maps Go.RowKit
def kvO(o:List Nat):List (AV×AV):=o.zipIdx.map fun x=>(AV.i (x.1:Nat),AV.i (x.2:Nat))
def mpO(o:List Nat):AObj:= .mp (kvO o)
theorem Nb{o:List Nat}{j:Nat}{p:AV×AV}(h:(kvO o)[j]? =some p):∃c,o[j]? =some c∧p=(AV.i (c:Nat),AV.i (j:Nat)):=by unfold kvO at h;rw[yI,tq]at h;obtain⟨x,hx,rfl⟩:=zY.1 h;obtain⟨c,hc,rfl⟩:=zY.1 hx;exact⟨c,hc,by simp⟩
theorem d09(o:List Nat)(c:Nat):kvO (o++[c])=kvO o++[(AV.i (c:Nat),AV.i (o.length:Nat))]:=by unfold kvO;rw[List.zipIdx_append,xF];simp
theorem j1b{o:List Nat}{p:AV×AV}(h:p∈kvO o):∃c∈o,p.1=AV.i (c:Nat):=by obtain⟨j,hj⟩:=yQ.1 h;obtain⟨c,hc,rfl⟩:=Nb hj;exact⟨c,zL hc,rfl⟩
theorem g09{o:List Nat}(hb:∀c∈o,c≤1000000):∀p∈kvO o,isKey Tryz.prog 3 p.1:=fun p hp=>by obtain⟨c,hc,e⟩:=j1b hp;rw[e];exact Ym ⟨by omega,by have:=hb c hc;omega⟩
section
variable {nt k:Nat} {S:AS} {ops:Array Oper} {o:Oper} {R:AS→Prop}
theorem Nn {wr:Bool} (hw:Q3 ops S o=some true) (hd:Wy nt o=true) {x ix:Operand} (ho:o.op= .lookup 192 x ix true) {id:Nat} (hx:rho S.sl x=some (.mref id)) {c:Nat} (z6:rho S.sl ix=some (.i (c:Nat))) {l:List Nat} (z7:S.hp[id]? =some (mpO l)) (hn:l.Nodup) (hb:∀c∈l,c≤1000000) (hc:c≤1000000)
  (hR:R (S.putD o.dst (.tup [.i ((if c∈l then Zg l c else 0:Nat)),.bool (decide (c∈l))]))):Wq Tryz.prog nt k wr ops o S R:=by
 refine Y9 tOk hw hd ho w2h rfl T3 P1 hx z6 z7 (Ym ⟨by omega,by omega⟩) (g09 hb) (z:= .i 0) rfl (fun j p hp he=> ?_) (fun z8=> ?_)
 ·obtain⟨c',z1,rfl⟩:=Nb hp;have za:c'=c:=by simp at he;omega
  subst za;have hm:=zL z1;rw[if_pos hm,u0c hn z1]at hR;simpa[hm]using hR
 ·have hm:c∉l:=fun h=>by
   obtain⟨j,hj⟩:=yQ.1 h;have zb:=Es hj;have:(kvO l)[j]? =some (AV.i (c:Nat),AV.i (j:Nat)):=by unfold kvO;rw[yI,tq,hj];simp
   exact z8 _ (zL this) rfl
  rw[if_neg hm]at hR;simpa[hm]using hR
theorem x0u (hw:Q3 ops S o=some true) (hd:Wy nt o=true) {x ix y:Operand} (ho:o.op= .mapUpdate 192 x ix y) {id:Nat} (hx:rho S.sl x=some (.mref id)) {c:Nat} (z1:rho S.sl ix=some (.i (c:Nat))) {l:List Nat} (hy:rho S.sl y=some (.i (l.length:Nat))) (z6:S.hp[id]? =some (mpO l)) (hb:∀c∈l,c≤1000000) (hc:c≤1000000) (hn:c∉l)
  (hR:R (({ S with hp:=S.hp.set id (mpO (l++[c])) }:AS).putD o.dst (.tup []))):Wq Tryz.prog nt k true ops o S R:=by
 refine Yo tOk hw hd ho w2h rfl P1 hx z1 hy (by simp[AV.pure]) z6 (Ym ⟨by omega,by omega⟩) (g09 hb) (fun j p hp he=> ?_) (fun za=> ?_)
 ·obtain⟨c',z7,rfl⟩:=Nb hp;have z8:c'=c:=by simp at he;omega
  subst z8;exact absurd (zL z7) hn
 ·have:mpO (l++[c])= .mp (kvO l++[(AV.i (c:Nat),AV.i (l.length:Nat))]):=by unfold mpO;rw[d09]
  rw[this]at hR;exact hR
theorem x0b (hw:Q3 ops S o=some true) (hd:Wy nt o=true) {x ix y:Operand} (ho:o.op= .insert 192 x ix y) {id:Nat} (hx:rho S.sl x=some (.mref id)) {c:Nat} (z1:rho S.sl ix=some (.i (c:Nat))) (hy:rho S.sl y=some (.i 0)) (z6:S.hp[id]? =some (.mp [])) (hc:c≤1000000)
  (hR:R (({ S with hp:=S.hp.set id (mpO [c]) }:AS).putD o.dst (.tup []))):Wq Tryz.prog nt k true ops o S R:=by
 refine Cy tOk hw hd ho w2h rfl P1 hx z1 hy (by simp[AV.pure]) z6 (Ym ⟨by omega,by omega⟩) (fun p hp=>by cases hp) (fun j p hp he=>by cases hp) (fun z7=> ?_);exact hR
end
end Go.Abs
/-
 DERIVED:THE SHELF's CONTRACTS AT THIS DUMP,IN PLAIN WORDS (tools/lay-plain.mjs out of 'TryzShelf.lean',which tools/lay-shelf.mjs wrote):THE SAME DECLARATIONS UNDER THE SAME NAMES:'import','namespace','open','def','theorem' AND NOTHING ELSE:no command of the shelf's:FOR A HAND-IN. Each laying:the table of numbers ('.._ren') and one theorem,a field a fact of the dump's own or the kernel's comparison;each contract:ONE APPLICATION.
-/
namespace Go.Proofs
open Go.Shelf
def Tryz.sortMv_ren:Go.Shelf.Ren:=⟨fun|6=>186|15=>199|14=>203|28=>216|29=>217|20=>227|21=>228|22=>229|23=>230|24=>231|25=>232|26=>233|27=>234|46=>247|47=>236|48=>237|49=>248|50=>249|57=>256|n=>n,fun|22=>23|24=>78|25=>243|3=>3|39=>213|0=>0|53=>247|55=>250|4=>4|46=>263|45=>262|50=>134|5=>5|9=>9|66=>281|70=>285|76=>296|77=>297|n=>n,fun|n=>n⟩
theorem Tryz.sortMv:Go.Proofs.SlLaysF0.n6 Tryz.prog Tryz.sortMv_ren:={
 mixed:=by kernel_rfl
 f6:=⟨Tryz.f186.name,by decide,Tryz.func186.trans (congrArg some (by kernel_rfl))⟩
 f14:=⟨Tryz.f203.name,by decide,Tryz.func203.trans (congrArg some (by kernel_rfl))⟩
 f15:=Tryz.func199.trans (congrArg some (by kernel_rfl))
 f20:=⟨Tryz.f227.name,by decide,Tryz.func227.trans (congrArg some (by kernel_rfl))⟩
 f21:=⟨Tryz.f228.name,by decide,Tryz.func228.trans (congrArg some (by kernel_rfl))⟩
 f22:=⟨Tryz.f229.name,by decide,Tryz.func229.trans (congrArg some (by kernel_rfl))⟩
 f23:=⟨Tryz.f230.name,by decide,Tryz.func230.trans (congrArg some (by kernel_rfl))⟩
 f24:=⟨Tryz.f231.name,by decide,Tryz.func231.trans (congrArg some (by kernel_rfl))⟩
 f25:=⟨Tryz.f232.name,by decide,Tryz.func232.trans (congrArg some (by kernel_rfl))⟩
 f26:=⟨Tryz.f233.name,by decide,Tryz.func233.trans (congrArg some (by kernel_rfl))⟩
 f27:=⟨Tryz.f234.name,by decide,Tryz.func234.trans (congrArg some (by kernel_rfl))⟩
 f28:=Tryz.func216.trans (congrArg some (by kernel_rfl))
 f29:=Tryz.func217.trans (congrArg some (by kernel_rfl))
 f46:=⟨Tryz.f247.name,by decide,Tryz.func247.trans (congrArg some (by kernel_rfl))⟩
 f47:=Tryz.func236.trans (congrArg some (by kernel_rfl))
 f48:=Tryz.func237.trans (congrArg some (by kernel_rfl))
 f49:=⟨Tryz.f248.name,by decide,Tryz.func248.trans (congrArg some (by kernel_rfl))⟩
 f50:=⟨Tryz.f249.name,by decide,Tryz.func249.trans (congrArg some (by kernel_rfl))⟩
 f57:=⟨Tryz.f256.name,by decide,Tryz.func256.trans (congrArg some (by kernel_rfl))⟩
 t0:=Tryz.underlying0
 a0:=Tryz.isAgg0
 z0:=Tryz.sizeOf0
 v0:=Tryz.zeroValue0
 t3:=Tryz.underlying3
 a3:=Tryz.isAgg3
 z3:=Tryz.sizeOf3
 v3:=Tryz.zeroValue3
 t4:=Tryz.underlying4
 a4:=Tryz.isAgg4
 z4:=Tryz.sizeOf4
 v4:=Tryz.zeroValue4
 t5:=Tryz.underlying5
 a5:=Tryz.isAgg5
 z5:=Tryz.sizeOf5
 v5:=Tryz.zeroValue5
 t9:=Tryz.underlying9
 a9:=Tryz.isAgg9
 z9:=Tryz.sizeOf9
 v9:=Tryz.zeroValue9
 t22:=Tryz.underlying23
 a22:=Tryz.isAgg23
 z22:=Tryz.sizeOf23
 v22:=Tryz.zeroValue23
 t25:=Tryz.underlying243
 a25:=Tryz.isAgg243
 z25:=Tryz.sizeOf243
 v25:=Tryz.zeroValue243
 t39:=Tryz.underlying213
 a39:=Tryz.isAgg213
 z39:=Tryz.sizeOf213
 v39:=Tryz.zeroValue213
 t45:=Tryz.underlying262
 a45:=Tryz.isAgg262
 z45:=Tryz.sizeOf262
 v45:=Tryz.zeroValue262
 t46:=Tryz.underlying263
 a46:=Tryz.isAgg263
 z46:=Tryz.sizeOf263
 v46:=Tryz.zeroValue263
 t50:=Tryz.underlying134
 a50:=Tryz.isAgg134
 z50:=Tryz.sizeOf134
 v50:=Tryz.zeroValue134
 t53:=Tryz.underlying247
 a53:=Tryz.isAgg247
 z53:=Tryz.sizeOf247
 v53:=Tryz.zeroValue247
 t55:=Tryz.underlying250
 a55:=Tryz.isAgg250
 z55:=Tryz.sizeOf250
 v55:=Tryz.zeroValue250
 t66:=Tryz.underlying281
 a66:=Tryz.isAgg281
 z66:=Tryz.sizeOf281
 v66:=Tryz.zeroValue281
 t70:=Tryz.underlying285
 a70:=Tryz.isAgg285
 z70:=Tryz.sizeOf285
 v70:=Tryz.zeroValue285
 t76:=Tryz.underlying296
 a76:=Tryz.isAgg296
 z76:=Tryz.sizeOf296
 v76:=Tryz.zeroValue296
 t77:=Tryz.underlying297
 a77:=Tryz.isAgg297
 z77:=Tryz.sizeOf297
 v77:=Tryz.zeroValue297 }
end Go.Proofs
namespace Go.Abs
open Go Go.Proofs Go.RowKit Go.Shelf Go.Lib Go.Sort
def ltM(m k:Mv):Bool:=Vh (kyM m) (kyM k)
def q2d(m k:Mv):Int:=if ltM m k=true then -1 else 1
def gdM(T:Nat)(m:Mv):Prop:=PWf T m.on∧Wo m.on=false∧∀s∈m.on,s.length≤1000000000
attribute [local irreducible] En Q1 Qo X6
theorem j1h(T:Nat)(hT:T≤16)(m k:Mv)(hm:gdM T m)(hk:gdM T k):PC Tryz.prog 187 [encMv m,encMv k] (fun r=>r= .i (q2d m k)):=by
 refine Ql tOk Tryz.func187 rfl Tryz.results187 rfl (by simp[Tryz.ntmps187]) ?_;rw[Tryz.ntmps187];simp only[Qf];simp only[encMv];have h1:=Nf hm.1;have h2:=Nf hk.1;rw[hm.2.1]at h1;rw[hk.2.1]at h2;have h3:=d1g m.on k.on;have hR:q2d m k=if X6 (Qo m.on) (Qo k.on)=true then -1 else 1:=by rw[h3];rfl
 rw[hR];repeat first|(refine r_ ?_;simp)|refine q_ ?_
 refine Qe rfl rfl (by simp) (Ay T m.on m.on hm.1 hm.1 hm.2.2 hm.2.2 (by omega)) rfl ?_;rintro _ rfl;simp;rw[h1];simp[Nc];repeat first|(refine r_ ?_;simp)|refine q_ ?_
 refine Qe rfl rfl (by simp) (Ay T k.on k.on hk.1 hk.1 hk.2.2 hk.2.2 (by omega)) rfl ?_;rintro _ rfl;simp;rw[h2];simp[Nc];repeat first|(refine r_ ?_;simp)|refine q_ ?_
 refine Qe rfl rfl (by simp) (Jo (Qo m.on) (Qo k.on)) rfl ?_;rintro _ rfl;simp;cases hb:X6 (Qo m.on) (Qo k.on)with
 |true=>refine Qm rfl ?_;repeat (first|(refine r_ ?_;simp)|refine q_ ?_)
 |false=>refine Qm rfl ?_;repeat first|(refine r_ ?_;simp)|refine q_ ?_
theorem f0z{w:World}{I:Nat→Prop}{v:Value}{k:IntKind}{n:Int}(h:PVR w I v (.int k n)):v.oneCell'=true:=by cases h;rfl
theorem w1u{w:World}{I:Nat→Prop}{v:Value}{xs:List AV}(h:PVR w I v (.list xs)):v.oneCell'=true:=by cases h;rfl
def GdE(T:Nat)(w:World)(I:Nat→Prop)(x:List Value×Mv):Prop:=x.1.length=3∧(∀v∈x.1,v.oneCell'=true)∧gdM T x.2∧∀(j:Nat) (y:AV),(encMv x.2).cells[j]? =some y→∃v,x.1[j]? =some v∧PVR w I v y
abbrev MvE (T:Nat) (w:World) (I:Nat→Prop):={ x:List Value×Mv // GdE T w I x }
def x01{T:Nat}{w:World}{I:Nat→Prop}(x:MvE T w I):List Value:=x.1.1
def f1c{T:Nat}{w:World}{I:Nat→Prop}(x y:MvE T w I):Int:=q2d x.1.2 y.1.2
theorem ltE{T:Nat}{w:World}{I:Nat→Prop}(x y:MvE T w I):ltOf f1c x y=ltM x.1.2 y.1.2:=by unfold ltOf f1c q2d;cases ltM x.1.2 y.1.2<;>rfl
theorem y2p{T:Nat}{w:World}{I:Nat→Prop}:SWO (ltOf (f1c (T:=T) (w:=w) (I:=I))) where
 irrefl x:=by rw[ltE,←uR];intro h;exact Ii.irr ((Rs _ _).1 h)
 trans x y z h1 h2:=by rw[ltE]at *;exact(Rs _ _).2 (((Rs _ _).1 h1).trans ((Rs _ _).1 h2))
 ntrans x y z h1 h2:=by
  rw[ltE]at *;rw[←uR]at *;intro h
  have h3:=(Rs _ _).1 h;have h4:¬Ii (kyM x.1.2).1 (kyM x.1.2).2 (kyM y.1.2).1 (kyM y.1.2).2:=fun k=>h1 ((Rs _ _).2 k);have h5:¬Ii (kyM y.1.2).1 (kyM y.1.2).2 (kyM z.1.2).1 (kyM z.1.2).2:=fun k=>h2 ((Rs _ _).2 k);unfold Ii at *;omega
theorem c0a(m:Mv):(encMv m).cells=[.i m.src,.i m.dst,.list (m.on.map encL)]:=rfl
theorem Dt{T:Nat}{w:World}{I:Nat→Prop}{l:List Mv}{F:Array Value}(hR:RowW w I 3 (l.map encMv) F)(hg:∀m∈l,gdM T m){i:Nat}(hi:i<l.length):GdE T w I ([F[i * 3]!,F[i * 3+1]!,F[i * 3+2]!],l[i]):=by
 have hx:(l.map encMv)[i]? =some (encMv l[i]):=by simp[hi]
 have c0:=hR.cell i _ hx 0 _ rfl;have c1:=hR.cell i _ hx 1 _ rfl;have c2:=hR.cell i _ hx 2 _ rfl;rw[Nat.add_zero]at c0;refine⟨rfl,fun v hv=> ?_,hg _ (zT hi),fun j y hy=> ?_⟩
 ·simp only[yL,List.not_mem_nil,or_false]at hv;rcases hv with rfl|rfl|rfl
  ·exact f0z c0
  ·exact f0z c1
  ·exact w1u c2
 ·rw[c0a]at hy
  match j,hy with
  |0,hy=>simp at hy;subst hy;exact⟨_,rfl,c0⟩
  |1,hy=>simp at hy;subst hy;exact⟨_,rfl,c1⟩
  |2,hy=>simp at hy;subst hy;exact⟨_,rfl,c2⟩
theorem k0k(T:Nat)(hT:T≤16)(H:List AObj)(p:Nat)(l:List Mv)(hp:H[p]? =some (.arr 78 3 (l.map encMv)))(hl:l.length≤1000000)(hg:∀m∈l,gdM T m):
  FC Tryz.prog 186 [.sl p 3 0 l.length,.fn (.func 187) [] []] H
   (fun r H'=>r= .tup []∧∃l':List Mv,l'.Perm l∧l'.Pairwise (fun x y=>ltM y x=false)∧H'=H.set p (.arr 78 3 (l'.map encMv))):=by
 refine(u1j (xs:=l.map encMv) (Yg Tryz.func186 rfl rfl) (by simp) hp [.func (.func 187) #[] #[]] (fun w I m vs a b=>V5 _ w I m _ vs a b) (fun zc=>∃l':List Mv,l'.Perm l∧l'.Pairwise (fun x y=>ltM y x=false)∧zc=l'.map encMv) ?_ ?_).mono ?_
 ·intro w I b cap F hE hI zg hR hH hb hc;have zh:F.size=l.length * 3:=by have:=hR.size;simpa using this
  by_cases z6:l=[]
  ·subst z6;refine Calls.mono (AnyF.slices_SortFunc_none Tryz.sortMv (some ⟨b,0,none⟩) cap _ w) ?_;rintro e w' ⟨rfl,rfl⟩;refine⟨rfl,[],F,0,#[],⟨[],.refl _,.nil,rfl⟩,rfl,hR,?_⟩;rw[grow_empty];exact(putRow_self id w' b 0 F hH).symm
  ·have z8:0<l.length:=List.length_pos_iff.2 z6;have eg:∀args w,(callFunc 187 args).run Tryz.prog w= .ok (.enter 187 args) w:=enters_of Tryz.func187 (by kernel_rfl) rfl;let _:Inhabited (MvE T w I):=⟨⟨_,Dt hR hg z8⟩⟩
   obtain⟨dl,za⟩:∃dl:List (MvE T w I),dl=List.ofFn fun i:Fin l.length=>(⟨_,Dt hR hg i.2⟩:MvE T w I):=⟨_,rfl⟩
   have z7:dl.length=l.length:=by rw[za];simp
   have zd:∀i (h:i<l.length),dl[i]? =some ⟨_,Dt hR hg h⟩:=fun i h=>by rw[za];simp[h]
   have zi:dl.map (fun x=>x.1.2)=l:=by
    refine xX fun i=> ?_;rw[yI];by_cases h:i<l.length
    ·rw[zd i h,zP h];rfl
    ·rw[xA (by omega),xA (by omega)];rfl
   clear za;have zj:flatK x01 3 dl.toArray=F:=by
    refine ext_get! (by simp[z7,zh]) fun t ht=> ?_;have zk:t<dl.length * 3:=by simpa using ht
    rw[get_flatK _ _ _ _ (by simpa using zk)];have hi:t / 3<l.length:=by omega
    have e1:dl.toArray[t / 3]! =⟨_,Dt hR hg hi⟩:=by rw[getElem!_pos dl.toArray _ (by simp;omega)];have:=zd _ hi;obtain⟨h1,h2⟩:=zE.1 this;simpa using h2
    rw[e1];simp only[x01];have hm:t % 3=0∨t % 3=1∨t % 3=2:=by omega
    rcases hm with h|h|h<;>rw[h]
    ·have:t / 3 * 3=t:=by omega
     simp[this]
    ·have:t / 3 * 3+1=t:=by omega
     simp[this]
    ·have:t / 3 * 3+2=t:=by omega
     simp[this]
   have zl:HoldsK x01 3 w b 0 dl.toArray:=by unfold HoldsK;rw[zj];exact hH
   have zb:CmpLays Tryz.prog 187 #[] x01 3 (f1c (T:=T) (w:=w) (I:=I)) b 0 dl.toArray.size w:=fun q os dk hs x y=>by
    have hW:∀c,I c→(sortWorldK x01 3 w b 0 q dk os).heap[c]? =w.heap[c]? :=fun c ze=>by have zm:=hI c ze;have zn:b≠c:=fun e=>zg (e▸ze);simp only[sortWorldK,grow,putRowK,putRow,mapBlock,Sort.ahead];rw[Array.getElem?_append_left (by simpa using zm),Array.getElem?_modify,if_neg zn]
    have zf:∀z:MvE T w I,PVR w I (.agg (x01 z).toArray) (encMv z.1.2):=fun z=>by
     refine .agg _ _ (by simp[x01,z.2.1]) fun i v x' hv z1=> ?_;obtain⟨v',h1,h2⟩:=z.2.2.2.2 i x' z1;have:v=v':=by simp only[x01,List.getElem?_toArray]at hv;rw[hv]at h1;exact Option.some.inj h1
     rw[this];exact h2
    refine(j1h T hT x.1.2 y.1.2 x.2.2.2.1 y.2.2.2.1).laid hE hI hW (by simp) fun i v x' hv z1=> ?_
    match i,hv,z1 with
    |0,hv,z1=>simp at hv z1;subst hv z1;exact zf x
    |1,hv,z1=>simp at hv z1;subst hv z1;exact zf y
   have:=AnyQ.slices_SortFunc Tryz.sortMv 3 Tryz.isAgg78 Tryz.sizeOf78 x01 (fun x=>x.2.1) (fun x v hv=>x.2.2.1 v hv) f1c y2p 187 #[] b 0 cap dl.toArray w eg zb zl hb (by simp;omega);rw[show(dl.toArray).size=l.length by simp[z7]]at this;refine Calls.mono this ?_;rintro e w' ⟨rfl,d',n,os,h1,h2,rfl⟩;obtain⟨s1,_,s3⟩:=h1;have hs:d'.toList.length=l.length:=by simpa[z7]using s1
   refine⟨rfl,(d'.toList.map (fun x=>x.1.2)).map encMv,flatK x01 3 d',n,os,⟨d'.toList.map (fun x=>x.1.2),?_,?_,rfl⟩,by simp[hs],⟨by simp,fun x hx=> ?_,fun i x hx j y hy=> ?_⟩,rfl⟩
   ·rw[show d'.extract 0 l.length=d' by simp[←hs],show dl.toArray.extract 0 l.length=dl.toArray by simp[←z7]]at s3;have:=(s3:d'.toList.Perm dl).map (fun x=>x.1.2)
    rwa [zi]at this
   ·refine wS.2 (yU.2 fun i j hi hj zo=> ?_);have:=h2 i j (wK _) zo (by omega);rw[ltE,getElem!_pos d' i (by simpa using hi),getElem!_pos d' j (by simpa using hj)]at this;simpa using this
   ·obtain⟨z,_,rfl⟩:=zX.1 hx;rfl
   ·rw[yI,yI]at hx;obtain⟨z0,zp,rfl⟩:=zY.1 hx;obtain⟨z,hz,rfl⟩:=zY.1 zp;obtain⟨hi,rfl⟩:=zE.1 hz;have hj:j<3:=(zE.1 hy).1;have zq:i<d'.size:=by simpa using hi
    rw[get_flatK _ _ _ _ (by omega)];rw[show(i * 3+j) / 3=i by omega,show(i * 3+j) % 3=j by omega];rw[getElem!_pos d' i zq];obtain⟨v,h1,h2⟩:=d'[i].2.2.2.2 j y (by simpa using hy);have:(x01 d'[i])[j]! =v:=by unfold x01;rw[List.getElem!_eq_getElem?_getD,h1];rfl
    rw[this];exact h2
 ·rintro h;have z6:l=[]:=by
   cases l with
   |nil=>rfl
   |cons x r=>simp at h
  subst z6;exact⟨⟨[],.refl _,.nil,rfl⟩,fun w=>AnyF.slices_SortFunc_none Tryz.sortMv none 0 _ w⟩
 ·rintro r H' ⟨rfl,zc,⟨l',h1,h2,rfl⟩,rfl⟩;exact⟨rfl,l',h1,h2,rfl⟩
end Go.Abs
namespace Go.Abs
theorem f1u{T B:Nat}{l:List Prd}(h:∀i,(Qw l i).length≤B):∀s∈Uh T l,s.length≤B:=fun s hs=>by unfold Uh at hs;obtain⟨i,_,rfl⟩:=zX.1 hs;exact yY (c0e _) (h i)
end Go.Abs
namespace Go.Abs
open Go Go.Proofs Go.Maps Go.RowKit
theorem q07{l:List Nat}{i:Nat}(h:i<l.length):l.getD i 0=l[i]:=by simp[yV,h]
attribute [local irreducible] Q8 En Rz Uh c0g L9 Jv kvG
theorem Jc{α:Type}:∀(l:List α) (i:Nat) (x:α),l[i]? =some x→l.Perm (x::l.eraseIdx i)
 |[],i,x,h=>by simp at h
 |y::l,0,x,h=>by simp at h;subst h;simp
 |y::l,i+1,x,h=>by simp only[List.getElem?_cons_succ]at h;exact((Jc l i x h).cons y).trans (List.Perm.swap x y _)
theorem q0z{a:Aut}(ha:OkA a)(cl:List Nat)(s:Int)(t:Nat):(O4 a cl s t).length≤2048:=by unfold O4;rw[yP];exact yY (xW _ _) (yY (Dw a s) ha.mvs)
theorem q1m(ks:List Nat)(t:Nat):(Ho ks t).length≤ks.length+1:=by
 unfold Ho;split
 ·omega
 ·simp
theorem x1p(cl:List Nat):∀(l:List Mv) (ks:List Nat),(l.foldl (fun ks m=>Ho ks (clD cl m)) ks).length≤ks.length+l.length
 |[],ks=>by simp
 |m::l,ks=>by have h1:=x1p cl l (Ho ks (clD cl m));have h2:=q1m ks (clD cl m);simp only[xY,y_];omega
theorem Cz{a:Aut}(ha:OkA a)(cl:List Nat)(s:Int)(t i:Nat):(Qw (O4 a cl s t) i).length≤1000000:=by
 have h1:∀p∈O4 a cl s t,PCk a.types.toNat p:=fun p hp=>by obtain⟨m,hm,rfl⟩:=zX.1 hp;exact(ha.mv m (Wu.1 (xV.1 hm).1).1).on
 have h2:=q0z ha cl s t;have:=Ui h1 i;omega
theorem d0b{x y:Mv}(h:ltM y x=false)(z1:kyM x≠kyM y):ltG kyM x y:=by
 unfold ltG;have h1:¬Ii (kyM y).1 (kyM y).2 (kyM x).1 (kyM x).2:=fun k=>by have:ltM y x=true:=(Rs _ _).2 k;rw[h]at this;cases this
 have h2:¬((kyM x).1=(kyM y).1∧(kyM x).2=(kyM y).2):=fun k=>z1 (t8 k.1 k.2);unfold Ii at *;omega
theorem j0v(a:Aut)(ha:Dfa a)(cl:List Nat)(x6:cl.length=a.fin.length)(y3:∀c∈cl,c≤1000000)(s:Int)(hs:inS a s):PC Tryz.prog 138 [Eh a,LI (T0 cl),.i s] (fun r=>r= .list ((c0g a cl s).map encMv)):=by
 refine Ql tOk Tryz.func138 rfl Tryz.results138 rfl (by simp[Tryz.ntmps138]) ?_;rw[Tryz.ntmps138];simp only[Qf];simp only[Eh,Q0];have yi:=ha.ok.fin;have x7:=Dw a s;have x8:=ha.ok.mvs;have y4:=fun m (hm:m∈Q8 a s)=>ha.ok.mv m (Wu.1 hm).1;have zo:=Zk hs;have x9:=Fk hs;have yj:=hs.1;have yk:=hs.2;have yl:(Rz a).length=a.fin.length:=by unfold Rz;simp
 simp only[T7]at zo;have zu:∀hh,(Rz a)[s.toNat]'hh= .list ((Q8 a s).map encMv):=fun hh=>by rw[zP hh]at zo;exact Option.some.inj zo
 repeat first|(refine r_ ?_;simp)|refine q_ ?_
 refine Rv rfl rfl rfl ?_;simp;repeat first|(refine r_ ?_;simp[zo,zu,yj,yk,yl])|refine q_ ?_
 refine c0r 1 rfl ?_;simp;obtain⟨K,hK⟩:∃K,K=[AObj.vars [.i a.types,.list (a.fin.map .bool),.list (a.mv.map encMv),.list (Rz a)]]:=⟨_,rfl⟩
 have ym:K[0]? =some (.vars [.i a.types,.list (a.fin.map .bool),.list (a.mv.map encMv),.list (Rz a)]):=by rw[hK];rfl
 refine Q9 fun Z hZ=> ?_;have zG:MG K 1 (Jv a cl s 0) (L9 a cl s 0) (fun _=>0) Z:=by rw[j0z];refine⟨by rw[hZ];unfold kvG;rfl,by simp,by simp,by simp,by rw[hK];simp,by simp,fun j hj=> ?_⟩;rw[hK]at hj;simp at hj;subst hj;rw[hZ,hK];rfl
 clear hZ;refine Qr (Qd (sl':=[(1,LI (T0 cl)),(3,.vptr 0 0),(6,.nils),(7,.mref 1),(18,.list ((Q8 a s).map encMv)),(19,.i (Q8 a s).length),(20,.i (0:Nat))]) ?_ (by simp));refine Qq (P:=Tryz.prog) (F:=fun(u:Nat×(Nat→Nat)×List AObj)=>⟨[(1,LI (T0 cl)),(3,.vptr 0 0),(6,.nils),(7,.mref 1),(18,.list ((Q8 a s).map encMv)),(19,.i (Q8 a s).length),(20,.i u.1)],u.2.2⟩)
  (fun u=>u.1≤(Q8 a s).length∧MG K 1 (Jv a cl s u.1) (L9 a cl s u.1) u.2.1 u.2.2) (fun u=>(Q8 a s).length - u.1) ?_ (0,fun _=>0,Z) ⟨wK _,zG⟩
 clear zG;clear Z;rintro⟨j,L,G⟩ ⟨hj,gG⟩ ih;simp only at hj gG ih ⊢;have za:=x1z a cl s j;have zp:∀t∈Jv a cl s j,t≤1000000:=fun t ht=>by
  obtain⟨m,hm,rfl⟩:=L2.1 ht;unfold clD;have:=ww hm;by_cases h:m.dst.toNat<cl.length
  ·rw[q07 h];exact y3 _ (zT h)
  ·simp[yV,h]
 have yn:=fun t (h:t∉Jv a cl s j)=>c0y h;repeat first|(refine r_ ?_;simp)|refine q_ ?_
 refine Qa rfl (fun zv=> ?_) (fun yo=> ?_)
 ·have z7:j<(Q8 a s).length:=by simpa using zv
  have hw:IntKind.i64.wrap ((j:Int)+1)=j+1:=wrap_i64 _ (by omega) (by omega);have zh:=j09 a cl s z7;have zq:=g0n a cl s z7;have y5:=y4 _ (zT z7);have y6:∀t,(L9 a cl s j t).length≤j:=fun t=>by unfold L9;rw[yP];refine yY (xW _ _) ?_;rw[wD];omega
  have zf:=fun L' G'=>ih (j+1,L',G');simp only[zh,zq]at zf;clear zh zq;have y7:((Q8 a s).map encMv)[j]? =some (encMv (Q8 a s)[j]):=by simp[z7]
  have y8:∀hh,((Q8 a s).map encMv)[j]'hh=encMv (Q8 a s)[j]:=fun hh=>by simp
  generalize (Q8 a s)[j]=m at *;generalize Jv a cl s j=ks at *;generalize L9 a cl s j=gs at *;simp only[encMv]at y7 y8
  repeat first|(refine r_ ?_;simp[y7,y8,z7])|refine q_ ?_
  obtain⟨d,hd⟩:∃d:Nat,m.dst=d:=⟨m.dst.toNat,by have:=y5.dst.1;omega⟩
  have z8:d<cl.length:=by have:=y5.dst.2;omega
  have zw:clD cl m=cl[d]:=by unfold clD;rw[hd];exact q07 z8
  have zr:clD cl m≤1000000:=by rw[zw];exact y3 _ (zT z8)
  have yp:(T0 cl)[d]? =some ((clD cl m:Nat):Int):=by rw[zw];simp[z8]
  have yq:∀hh,(T0 cl)[d]'hh=((clD cl m:Nat):Int):=fun hh=>(yJ hh).2 yp;rw[hd]at *;refine Q9 fun Y hY=> ?_
  have yG:MG K 1 ks gs L Y:=by rw[hY];exact gG.grow _
  have yx:Y[G.length]? =some (.vars [.i m.src,.i d,.list (m.on.map encL)]):=by rw[hY,zO (by simp)];simp
  clear hY gG;generalize G.length=x at *;clear G
  have xa:=y6 (clD cl m);have zx:=yn (clD cl m);have yM:=yG.map;have zi:=fun np H'=>yG.put (t:=clD cl m) (p:=m.on) (np:=np) (H':=H');have yr:=yG.leaf (clD cl m);have zy:=yG.ne (clD cl m);generalize clD cl m=t at *
  have zb:cl[d]=t:=zw.symm;have zc:∀E,(Y++E)[x]? =some (.vars [.i m.src,.i d,.list (m.on.map encL)]):=fun E=>Qb yx E;have zd:∀E hh,(Y++E)[x]'hh= .vars [.i m.src,.i d,.list (m.on.map encL)]:=fun E hh=>(yJ hh).2 (zc E);by_cases htk:t∈ks
  ·have ze:=yr htk;have y9:=zy htk;have yt:L t≠x:=fun e=>by rw[e,yx]at ze;simp at ze
   have ya:=Qi ze;have z6:((gs t).map encP).length=(gs t).length:=by simp
   generalize yu:(gs t).map encP=ge at *
   have zt:∀E,(Y.set (L t) .dead++E)[x]? =some (.vars [.i m.src,.i d,.list (m.on.map encL)]):=fun E=>Qb (Qc yt yx _) E;have zz:∀E hh,(Y.set (L t) .dead++E)[x]'hh= .vars [.i m.src,.i d,.list (m.on.map encL)]:=fun E hh=>(yJ hh).2 (zt E);refine Iu (P:=Tryz.prog) tOk mixed [16,17] (.val 0 (.val 1 (.val 2 (.val 6 (.val 7 (.val 8 (.val 9 (.val 10 (.val 11 (.val 13 (.val 14 (.three 3 (.val 4 (.three 5 (.two 12 (.one 15 (.one 16 (.one 17 (.done)))) 15 (.one 12 (.one 16 (.one 17 (.done))))) 12 (.two 5 (.one 15 (.one 16 (.one 17 (.done)))) 15 (.two 5 (.one 16 (.one 17 (.done))) 16 (.val 5 (.one 17 (.done))))) 15 (.two 5 (.one 12 (.one 16 (.one 17 (.done)))) 12 (.two 5 (.one 16 (.one 17 (.done))) 16 (.val 5 (.one 17 (.done))))))) 12 (.two 3 (.val 4 (.two 5 (.one 15 (.one 16 (.one 17 (.done)))) 15 (.two 5 (.one 16 (.one 17 (.done))) 16 (.val 5 (.one 17 (.done)))))) 15 (.two 3 (.val 4 (.two 5 (.one 16 (.one 17 (.done))) 16 (.val 5 (.one 17 (.done))))) 16 (.val 3 (.val 4 (.val 5 (.one 17 (.done))))))) 15 (.two 3 (.val 4 (.two 5 (.one 12 (.one 16 (.one 17 (.done)))) 12 (.two 5 (.one 16 (.one 17 (.done))) 16 (.val 5 (.one 17 (.done)))))) 12 (.two 3 (.val 4 (.two 5 (.one 16 (.one 17 (.done))) 16 (.val 5 (.one 17 (.done))))) 16 (.val 3 (.val 4 (.val 5 (.one 17 (.done))))))))))))))))))) (fun S'=>∃np,MG K 1 (Ho ks t) (fun u=>if u=t then gs t++[m.on]else gs u) (fun u=>if u=t then np else L u) S'.hp∧look S'.sl 1=some (LI (T0 cl))∧look S'.sl 3=some (.vptr 0 0)∧look S'.sl 6=some .nils∧look S'.sl 7=some (.mref 1)∧look S'.sl 18=some (.list ((Q8 a s).map encMv))∧look S'.sl 19=some (.i (Q8 a s).length)∧look S'.sl 20=some (.i j)) rfl (by kernel_rfl) ?_ ?_
   ·simp[yx,zc,zd,zb,z8]
    repeat' (first
     |refine And.intro ?_ ?_
     |(refine Gg rfl rfl rfl rfl rfl (by first|exact yM|exact Qb yM _) zp zr ?_;rw[if_pos htk];simp[yx,zc,zd,zb,z8])
     |(refine Qh tOk rfl rfl T91 rfl T76 rfl (by decide) (by decide) rfl rfl rfl ?_;simp[Qb ze,Qj ze,z6,yx,zc,zd,zt,zz,zb,z8];refine⟨by simp[Wp,z6]<;>omega,?_⟩;simp[zt,zz,zb,z8])
     |(refine Qh tOk rfl rfl T91 rfl T76 rfl (by decide) (by decide) rfl rfl rfl ?_;simp[Qb ze,Qj ze,z6,yx,zc,zd,zt,zz,zb,z8];refine⟨by simp[Wp,z6]<;>omega,?_⟩))
    all_goals
     refine J9 rfl rfl rfl rfl rfl (np:=Y.length+1) (n:=(gs t).length+1) rfl (ks:=ks) (gs:=gs) (L:=L) (Qb (Qc y9 yM _) _) zp zr za zx m.on rfl ?_;simp;refine⟨Y.length+1,zi (Y.length+1) _ (by omega) (Qg (Qb (Qc y9 yM _) _) _) ?_ ?_⟩
     ·rw[zH (by have:=Qi yM;omega),zO (by simp),xF,yu];simp
     ·intro jj h1 h2 h3;rw[zH (Ne.symm h2),zI (by simpa using h1),zH (fun e=>h3 htk e.symm)]
   ·rintro⟨sl,E⟩ ⟨np,hE,s1,s3,s6,s7,s18,s19,s20⟩;simp only at hE s1 s3 s6 s7 s18 s19 s20;simp;refine Qx (sl':=[(1,LI (T0 cl)),(3,.vptr 0 0),(6,.nils),(7,.mref 1),(18,.list ((Q8 a s).map encMv)),(19,.i (Q8 a s).length),(20,.i j)]) ?_ (by simp[s1,s3,s6,s7,s18,s19,s20]);repeat first|(refine r_ ?_;simp[hw])|refine q_ ?_
    refine Qd (sl':=[(1,LI (T0 cl)),(3,.vptr 0 0),(6,.nils),(7,.mref 1),(18,.list ((Q8 a s).map encMv)),(19,.i (Q8 a s).length),(20,.i (j+1:Nat))]) ?_ (by simp);exact zf _ E ⟨by omega,hE⟩ (by omega)
  ·have yb:=zx htk;have z6:(gs t).length=0:=by rw[yb];rfl
   refine Iu (P:=Tryz.prog) tOk mixed [16,17] (.val 0 (.val 1 (.val 2 (.val 6 (.val 7 (.val 8 (.val 9 (.val 10 (.val 11 (.val 13 (.val 14 (.three 3 (.val 4 (.three 5 (.two 12 (.one 15 (.one 16 (.one 17 (.done)))) 15 (.one 12 (.one 16 (.one 17 (.done))))) 12 (.two 5 (.one 15 (.one 16 (.one 17 (.done)))) 15 (.two 5 (.one 16 (.one 17 (.done))) 16 (.val 5 (.one 17 (.done))))) 15 (.two 5 (.one 12 (.one 16 (.one 17 (.done)))) 12 (.two 5 (.one 16 (.one 17 (.done))) 16 (.val 5 (.one 17 (.done))))))) 12 (.two 3 (.val 4 (.two 5 (.one 15 (.one 16 (.one 17 (.done)))) 15 (.two 5 (.one 16 (.one 17 (.done))) 16 (.val 5 (.one 17 (.done)))))) 15 (.two 3 (.val 4 (.two 5 (.one 16 (.one 17 (.done))) 16 (.val 5 (.one 17 (.done))))) 16 (.val 3 (.val 4 (.val 5 (.one 17 (.done))))))) 15 (.two 3 (.val 4 (.two 5 (.one 12 (.one 16 (.one 17 (.done)))) 12 (.two 5 (.one 16 (.one 17 (.done))) 16 (.val 5 (.one 17 (.done)))))) 12 (.two 3 (.val 4 (.two 5 (.one 16 (.one 17 (.done))) 16 (.val 5 (.one 17 (.done))))) 16 (.val 3 (.val 4 (.val 5 (.one 17 (.done))))))))))))))))))) (fun S'=>∃np,MG K 1 (Ho ks t) (fun u=>if u=t then gs t++[m.on]else gs u) (fun u=>if u=t then np else L u) S'.hp∧look S'.sl 1=some (LI (T0 cl))∧look S'.sl 3=some (.vptr 0 0)∧look S'.sl 6=some .nils∧look S'.sl 7=some (.mref 1)∧look S'.sl 18=some (.list ((Q8 a s).map encMv))∧look S'.sl 19=some (.i (Q8 a s).length)∧look S'.sl 20=some (.i j)) rfl (by kernel_rfl) ?_ ?_
   ·simp[yx,zc,zd,zb,z8]
    repeat' (first
     |refine And.intro ?_ ?_
     |(refine Gg rfl rfl rfl rfl rfl (by first|exact yM|exact Qb yM _) zp zr ?_;rw[if_neg htk];simp[yx,zc,zd,zb,z8])
     |(refine Qh tOk rfl rfl T91 rfl T76 rfl (by decide) (by decide) rfl rfl rfl ?_;simp[yx,zc,zd,zb,z8];refine⟨by simp[Wp]<;>omega,?_⟩))
    all_goals
     refine J9 rfl rfl rfl rfl rfl (np:=Y.length+1) (n:=1) rfl (ks:=ks) (gs:=gs) (L:=L) (Qb yM _) zp zr za zx m.on (by rw[z6]) ?_;simp;refine⟨Y.length+1,zi (Y.length+1) _ (by omega) (Qg (Qb yM _) _) ?_ ?_⟩
     ·rw[zH (by have:=Qi yM;omega),zO (by simp),xF,yb];simp
     ·intro jj h1 h2 h3;rw[zH (Ne.symm h2),zI h1]
   ·rintro⟨sl,E⟩ ⟨np,hE,s1,s3,s6,s7,s18,s19,s20⟩;simp only at hE s1 s3 s6 s7 s18 s19 s20;simp;refine Qx (sl':=[(1,LI (T0 cl)),(3,.vptr 0 0),(6,.nils),(7,.mref 1),(18,.list ((Q8 a s).map encMv)),(19,.i (Q8 a s).length),(20,.i j)]) ?_ (by simp[s1,s3,s6,s7,s18,s19,s20]);repeat first|(refine r_ ?_;simp[hw])|refine q_ ?_
    refine Qd (sl':=[(1,LI (T0 cl)),(3,.vptr 0 0),(6,.nils),(7,.mref 1),(18,.list ((Q8 a s).map encMv)),(19,.i (Q8 a s).length),(20,.i (j+1:Nat))]) ?_ (by simp);exact zf _ E ⟨by omega,hE⟩ (by omega)
 ·have y0:j=(Q8 a s).length:=by simp at yo;omega
  subst y0;have y6:∀t,(L9 a cl s (Q8 a s).length t).length≤2048:=fun t=>by unfold L9;rw[yP];refine yY (xW _ _) ?_;rw[wD];omega
  refine Qx (sl':=[(3,.vptr 0 0),(6,.nils),(7,.mref 1)]) ?_ (by simp);refine MG.freeze za gG.inj gG.ne (fun t ht=>by simp[AV.fz]) (Jv a cl s (Q8 a s).length).length 0 G (by omega) (by rw[z1p];exact gG.map) (fun i t _ ht=>gG.leaf t (zL ht)) fun H' y1 yc yd=> ?_;have g0:H'[0]? =some (.vars [.i a.types,.list (a.fin.map .bool),.list (a.mv.map encMv),.list (Rz a)]):=by rw[yd 0 (by have:=Qi gG.map;omega) (by decide) (fun t ht e=>by have:=gG.geL t ht;rw[hK]at this;simp at this;omega),gG.keep 0 (by rw[hK];simp)];exact ym
  rw[k1v]at y1;clear yd gG ih;refine q1h 1 y1 (by simp[AV.pure]) ?_;have z1:=Qg y1 (.mp ((Jv a cl s (Q8 a s).length).map fun t:Nat=>(AV.i t,AV.list ((L9 a cl s (Q8 a s).length t).map encP))));have z0:=Qc (j:=1) (by decide) g0 (.mp ((Jv a cl s (Q8 a s).length).map fun t:Nat=>(AV.i t,AV.list ((L9 a cl s (Q8 a s).length t).map encP))));generalize H'.set 1 _=Z at *
  repeat first|(refine r_ ?_;simp)|refine q_ ?_
  refine Vy tOk rfl rfl rfl q2h rfl rfl z1 ?_;simp;repeat first|(refine r_ ?_;simp)|refine q_ ?_
  have zq:L9 a cl s (Q8 a s).length=O4 a cl s:=funext fun t=>c0m a cl s t;rw[zq]at *;generalize zh:Jv a cl s (Q8 a s).length=ks at *;refine Qx (sl':=[(3,.vptr 0 0),(6,.nils),(10,.nils),(43,.vptr Z.length 0)]) ?_ (by simp)
  refine Wg 10 78 3 rfl ?_;simp;have xb:=Qi z1;refine Q9 fun E hE=> ?_;have e0:E[0]? =some (.vars [.i a.types,.list (a.fin.map .bool),.list (a.mv.map encMv),.list (Rz a)]):=by rw[hE];exact Qb (Qc (j:=1) (by decide) z0 _) _
  have ei:E[Z.length]? =some (.it (ks.map fun t:Nat=>(.i t,.list ((O4 a cl s t).map encP))) none):=by rw[hE,zO (by simp)];simp
  have eq:E[Z.length+1]? =some (.arr 78 3 []):=by rw[hE,zO (by simp)];simp
  clear hE;generalize Z.length=I at *;clear z0 z1;clear Z
  have hT:=ha.ok.types;have yv:((a.types.toNat:Nat):Int)=a.types:=by omega
  have ye:∀t,∀p∈O4 a cl s t,PWf a.types.toNat p:=fun t p hp=>by obtain⟨m,hm,rfl⟩:=zX.1 hp;exact(Bu ha.ok (xV.1 hm).1).1
  have yf:∀t,(O4 a cl s t).length≤1000000:=fun t=>yY (q0z ha.ok cl s t) (by decide);have hU:∀t,PC Tryz.prog 161 [.i a.types,LP (O4 a cl s t)] (fun r=>r=encP (Uh a.types.toNat (O4 a cl s t))):=fun t=>by
   have:=Cm a.types.toNat (O4 a cl s t) (by omega) (ye t) (fun i _=>Cz ha.ok cl s t i) (yf t)
   rwa [yv]at this
  have yw:ks.length≤2048:=by rw[←zh];unfold Jv;rw[xD];have:=x1p cl (Q8 a s) [];simp only[List.length_nil]at this;omega
  have yy:∀t,∀r∈Uh a.types.toNat (O4 a cl s t),r.length≤1000000000:=fun t r hr=>by have:=f1u (fun i=>Cz ha.ok cl s t i) r hr;omega
  clear ye yf;refine Qr (Qd (sl':=[(3,.vptr 0 0),(6,.nils),(10,.sl (I+1) 3 0 ([]:List Nat).length),(43,.vptr I 0)]) ?_ (by simp));refine Qq (P:=Tryz.prog) (F:=fun(u:List Nat×Option (AV×AV)×List Nat×Nat×List AObj)=>⟨[(3,.vptr 0 0),(6,.nils),(10,.sl u.2.2.2.1 3 0 u.2.2.1.length),(43,.vptr I 0)],u.2.2.2.2⟩)
   (fun u=>I<u.2.2.2.1∧(u.2.2.1++u.1).Perm ks∧u.2.2.2.2[0]? =some (.vars [.i a.types,.list (a.fin.map .bool),.list (a.mv.map encMv),.list (Rz a)])∧u.2.2.2.2[I]? =some (.it (u.1.map fun t:Nat=>(.i t,.list ((O4 a cl s t).map encP))) u.2.1)∧u.2.2.2.2[u.2.2.2.1]? =some (.arr 78 3 (u.2.2.1.map fun t:Nat=>encMv ⟨0,t,Uh a.types.toNat (O4 a cl s t)⟩))) (fun u=>u.1.length) ?_ (ks,none,[],I+1,E) ⟨by simp only;omega,by simp,e0,ei,eq⟩
  clear e0 ei eq;clear E;rintro⟨left,cur,ds,q,E⟩ ⟨yz,zg,e0,ei,eq⟩ ih;simp only at yz zg e0 ei eq ih ⊢;repeat first|(refine r_ ?_;simp)|refine q_ ?_
  refine z0n rfl rfl rfl rfl ei (fun x0=> ?_) (fun i p hp=> ?_)
  ·simp;have x1:left=[]:=by simpa using x0
   subst x1;rw[xS]at zg;have xc:ds.length≤2048:=by rw[zg.length_eq];exact yw
   repeat first|(refine r_ ?_;simp)|refine q_ ?_
   refine Qm rfl ?_;simp;repeat first|(refine r_ ?_;simp)|refine q_ ?_
   have x2:(ds.map fun t:Nat=>encMv ⟨0,t,Uh a.types.toNat (O4 a cl s t)⟩)=(ds.map fun t:Nat=>(⟨0,(t:Int),Uh a.types.toNat (O4 a cl s t)⟩:Mv)).map encMv:=by rw[vC];rfl
   rw[x2]at eq;have zj:=u03 ha cl s (ks:=ds) (zg.symm.nodup za) (fun t=>by
    rw[zg.mem_iff,←zh,L2,xD])
   have yg:∀m∈(ds.map fun t:Nat=>(⟨0,(t:Int),Uh a.types.toNat (O4 a cl s t)⟩:Mv)),gdM a.types.toNat m:=fun m hm=>by refine⟨zj.wf m hm,(R8 (zj.wf m hm)).2 (zj.ne m hm),fun t ht=> ?_⟩;obtain⟨u,_,rfl⟩:=zX.1 hm;exact yy u t ht
   obtain⟨L,hL⟩:∃L,L=(ds.map fun t:Nat=>(⟨0,(t:Int),Uh a.types.toNat (O4 a cl s t)⟩:Mv)):=⟨_,rfl⟩
   have x3:ds.length=L.length:=by rw[hL];simp
   rw[←hL]at eq zj yg;have x4:L.length≤1000000:=by omega
   rw[x3];refine Q4 rfl rfl (k0k a.types.toNat (by omega) E q L eq x4 yg) rfl ?_;rintro r H' ⟨rfl,l',h1,h2,rfl⟩;simp;have yh:=Gk ha cl hs;have zk:=zj.perm h1.symm;have zv:l'.Pairwise (ltG kyM):=by have x5:=zk.apart fun t t' ty y=>V8 ha hs;refine(h2.and x5).imp fun {x y} h=> ?_;obtain⟨e1,e2⟩:=h;exact d0b e1 e2
   have zl:l'=c0g a cl s:=zk.uniq yh.1 zv yh.2;have ya:=h1.length_eq;rw[←ya];refine Qx (sl':=[(6,.nils),(10,.sl q 3 0 l'.length)]) ?_ (by simp);refine Wl q (Qg eq _) ?_;simp[AV.fz];rw[zZ (by simp),zl];repeat first|(refine r_ ?_;simp)|refine q_ ?_
  ·simp;rw[yI]at hp;obtain⟨t,ht,rfl⟩:=zY.1 hp;rw[d0j];have zm:(ds++[t]++left.eraseIdx i).Perm ks:=by refine List.Perm.trans ?_ zg;rw[xZ];exact List.Perm.append_left ds (Jc left i t ht).symm
   have xd:(left.eraseIdx i).length<left.length:=by rw[List.length_eraseIdx,if_pos (Es ht)];have:=Es ht;omega
   have xe:ds.length+1≤2048:=by have:=zm.length_eq;simp at this;omega
   have xf:=Qi ei;have zf:=fun y2 q' E'=>ih (left.eraseIdx i,y2,ds++[t],q',E');simp only[yS,List.length_singleton,xF,xI,wY]at zf;generalize left.eraseIdx i=left' at *
   have k0:=Qc (j:=I) (by intro e;rw[e,e0]at ei;simp at ei) e0 (.it (left'.map fun t:Nat=>(AV.i t,AV.list ((O4 a cl s t).map encP))) (some (AV.i t,AV.list ((O4 a cl s t).map encP))));have ki:=Qg ei (.it (left'.map fun t:Nat=>(AV.i t,AV.list ((O4 a cl s t).map encP))) (some (AV.i t,AV.list ((O4 a cl s t).map encP))));have kq:=Qc (j:=I) (by omega) eq (.it (left'.map fun t:Nat=>(AV.i t,AV.list ((O4 a cl s t).map encP))) (some (AV.i t,AV.list ((O4 a cl s t).map encP))));generalize E.set I (.it (left'.map fun t:Nat=>(AV.i t,AV.list ((O4 a cl s t).map encP))) (some (AV.i t,AV.list ((O4 a cl s t).map encP))))=E1 at *
   clear e0 ei eq;repeat first|(refine r_ ?_;simp)|refine q_ ?_
   refine Qm rfl ?_;simp;repeat first|(refine r_ ?_;simp)|refine q_ ?_
   refine V1 rfl rfl rfl rfl ki ?_;simp;have zn:(ds.map fun t:Nat=>encMv ⟨0,t,Uh a.types.toNat (O4 a cl s t)⟩).length=ds.length:=by simp
   generalize y4:(ds.map fun t:Nat=>encMv ⟨0,t,Uh a.types.toNat (O4 a cl s t)⟩)=mm at *
   repeat first|(refine r_ ?_;simp[k0])|refine q_ ?_
   refine Qe rfl rfl (by simp) (hU t) rfl ?_;rintro _ rfl;simp;refine Qh tOk rfl rfl T23 rfl T78 rfl (by decide) (by decide) rfl rfl rfl ?_;simp[Qb kq,Qj kq,kq,zn];refine⟨by simp[Wp,Qb kq,Qj kq,kq,zn]<;>omega,?_⟩;repeat first|(refine r_ ?_;simp)|refine q_ ?_
   refine Qd (sl':=[(3,.vptr 0 0),(6,.nils),(10,.sl (E1.length+1) 3 0 (ds.length+1)),(43,.vptr I 0)]) ?_ (by simp);have xg:=Qi kq;refine zf _ (E1.length+1) _ ⟨by omega,by simpa using zm,Qb (Qc (j:=q) (by omega) k0 _) _,Qb (Qc (j:=q) (by omega) ki _) _,?_⟩ (by omega);rw[zO (by simp)];simp
end Go.Abs
namespace Go.Abs
open Go Go.Proofs
theorem K1{a:Aut}(ha:Dfa a):(clA a).length=a.fin.length:=(g1y ha).len
theorem d1z{a:Aut}(ha:Dfa a):∀c∈clA a,c≤1000000:=fun c hc=>by obtain⟨j,hj⟩:=yQ.1 hc;obtain⟨z1,rfl⟩:=zE.1 hj;have:=(g1y ha).lt_fs (by rw[K1 ha]at z1;exact z1);have h2:=g0t ha;have h3:=ha.ok.fin;simp only[yV,zP z1,Option.getD_some]at this;have h4:(Ai (eqS a) a.fin.length).1.length≤a.fin.length:=h2;unfold clA at *;omega
theorem v0r{l:List Nat}{i:Nat}(h:i<l.length):l.getD i 0∈l:=by rw[yV,zP h];exact zT h
theorem x17{a:Aut}(ha:Dfa a){c:Nat}(hc:Za a c):c∈clA a:=by
 obtain⟨h1,h2⟩:=P7 ha hc;have hl:Iz a c<(clA a).length:=by rw[K1 ha];exact h1
 have e:Yb a (Iz a c)=(clA a).getD (Iz a c) 0:=rfl;rw[←h2,e];exact v0r hl
theorem k13{a:Aut}(ha:Dfa a){c:Nat}(hc:Za a c):Zb (fun y:Int=>((c:Nat):Int)==y) (T0 (clA a))=(Iz a c:Nat):=by
 have e:(fun y:Int=>((c:Nat):Int)==y)=fun y:Int=>y==((c:Nat):Int):=by funext y;rw[x_,beq_iff_eq,beq_iff_eq];exact eq_comm
 rw[e,q1q (x17 ha hc)];rfl
theorem y1d{a:Aut}(ha:Dfa a):(clA a)[0]? =some (Yb a 0):=by
 have z1:0<(clA a).length:=by rw[K1 ha];have:=ha.zero.2;omega
 have:Yb a 0=(clA a).getD 0 0:=by unfold Yb;rfl
 rw[this,yV,zP z1];rfl
theorem k01{a:Aut}(ha:Dfa a){c:Nat}(hc:Za a c):c≤1000000:=by have h3:=g0t ha;have h4:=ha.ok.fin;unfold Za at hc;omega
end Go.Abs
namespace Go.Abs
open Go Go.Proofs Go.Maps Go.RowKit
abbrev d03 (a:Aut):AObj:= .vars [.i a.types,.list (a.fin.map .bool),.list (a.mv.map encMv),.list (Rz a)]
theorem v0p(a:Aut)(c:Nat):c0g a (clA a) (Iz a c:Nat)=Ps a c:=rfl
theorem y0g{l:List Bool}{i:Nat}(h:i<l.length):l[i]? =some (l.getD i false):=by simp[yV,h]
attribute [local irreducible] clA Iz Ps Wk Dv Zg qMv qM qF Ev mpO Yb c0g Rz Za
theorem B8(a:Aut)(ha:Dfa a):PC Tryz.prog 80 [Eh a] (fun r=>r=encA (Ev a)):=by
 refine Ql tOk Tryz.func80 rfl Tryz.results80 rfl (by simp[Tryz.ntmps80]) ?_;rw[Tryz.ntmps80];simp only[Qf];simp only[Eh,Q0];have xh:=ha.ok.fin;have hlen:=K1 ha;have hle:=d1z ha;have y3:0<(clA a).length:=by rw[hlen];have:=ha.zero.2;omega
 have xi:=y1d ha;have xj:Yb a 0≤1000000:=k01 ha (N8 ha ha.zero);repeat first|(refine r_ ?_;simp)|refine q_ ?_
 have cG:=F9 a ha;have cM:=fun(s:Int) (hs:inS a s)=>j0v a ha (clA a) hlen hle s hs;have xk:=fun(c:Nat) (hc:Za a c)=>k13 ha hc;have y4:(T0 (clA a))[0]? =some ((Yb a 0:Nat):Int):=by simp[xi]
 have yw:0<(T0 (clA a)).length:=by simp[y3]
 generalize T0 (clA a)=CL at *
 have zk:∀hh,CL[0]'hh=((Yb a 0:Nat):Int):=fun hh=>(yJ hh).2 y4;simp only[Eh,Q0]at cG cM;refine Qe rfl rfl (by simp) (cG) rfl ?_;rintro _ rfl;simp;repeat first|(refine r_ ?_;simp)|refine q_ ?_
 refine Rv rfl rfl rfl ?_;simp[yw,y4,zk];refine x0b rfl rfl rfl rfl (c:=Yb a 0) rfl rfl rfl xj ?_;simp;repeat first|(refine r_ ?_;simp[yw,y4,zk])|refine q_ ?_
 refine Qx (sl':=[(1,.vptr 0 0),(2,.vptr 1 0),(3,LI CL),(4,.mref 2),(5,.sl 3 1 0 1),(6,.vptr 4 0),(7,.i (0:Nat))]) ?_ (by simp);refine Ex 4 1 4 1 rfl rfl ?_;refine Q9 fun Z1 z8=> ?_;have z1l:Z1.length=6:=by rw[z8];simp
 have z1c:Z1[4]? =some (.vars [.i a.types,.sl 5 1 0 0,.nils]):=by rw[z8];rfl
 have z1f:Z1[5]? =some (.arr 4 1 []):=by rw[z8];rfl
 have z1o:Z1[3]? =some (.arr 3 1 [.i (Yb a 0:Nat)]):=by rw[z8];rfl
 have z1m:Z1[2]? =some (mpO [Yb a 0]):=by rw[z8];rfl
 have z10:Z1[0]? =some (d03 a):=by rw[z8];rfl
 have z11:Z1[1]? =some (.vars [.i 0,.nils,.nils]):=by rw[z8];rfl
 clear z8;refine Ex 4 2 78 3 z1c rfl ?_;refine Q9 fun Z2 za=> ?_;have z2c:Z2[4]? =some (.vars [.i a.types,.sl 5 1 0 0,.sl 6 3 0 0]):=by rw[za,zU (by simp;omega)];simp[z1l]
 have z2f:Z2[5]? =some (.arr 4 1 []):=by rw[za,zH (by omega),zI (by omega)];exact z1f
 have z2v:Z2[6]? =some (.arr 78 3 []):=by rw[za,zH (by omega),zO (by omega)];simp[z1l]
 have z2o:Z2[3]? =some (.arr 3 1 [.i (Yb a 0:Nat)]):=by rw[za,zH (by omega),zI (by omega)];exact z1o
 have z2m:Z2[2]? =some (mpO [Yb a 0]):=by rw[za,zH (by omega),zI (by omega)];exact z1m
 have z20:Z2[0]? =some (d03 a):=by rw[za,zH (by omega),zI (by omega)];exact z10
 have z21:Z2[1]? =some (.vars [.i 0,.nils,.nils]):=by rw[za,zH (by omega),zI (by omega)];exact z11
 clear za z1l z1c z1f z10 z11 z1o z1m;clear Z1;refine Qr (Qd (sl':=[(1,.vptr 0 0),(2,.vptr 1 0),(3,LI CL),(4,.mref 2),(5,.sl 3 1 0 [Yb a 0].length),(6,.vptr 4 0),(7,.i (0:Nat))]) ?_ (by simp));refine Qq (P:=Tryz.prog) (F:=fun(u:Nat×List Nat×Nat×Nat×Nat×List AObj)=>⟨[(1,.vptr 0 0),(2,.vptr 1 0),(3,LI CL),(4,.mref 2),(5,.sl u.2.2.1 1 0 u.2.1.length),(6,.vptr 4 0),(7,.i u.1)],u.2.2.2.2.2⟩)
  (fun u=>QI a u.1 u.2.1∧u.2.2.2.2.2[0]? =some (d03 a)∧u.2.2.2.2.2[1]? =some (.vars [.i 0,.nils,.nils])∧u.2.2.2.2.2[2]? =some (mpO u.2.1)∧u.2.2.2.2.2[4]? =some (.vars [.i a.types,.sl u.2.2.2.1 1 0 u.1,.sl u.2.2.2.2.1 3 0 (qM a u.1 u.2.1).length])∧u.2.2.2.2.2[u.2.2.1]? =some (.arr 3 1 ((T0 u.2.1).map .i))∧u.2.2.2.2.2[u.2.2.2.1]? =some (.arr 4 1 ((qF a (u.2.1.take u.1)).map .bool))∧u.2.2.2.2.2[u.2.2.2.2.1]? =some (.arr 78 3 ((qM a u.1 u.2.1).map encMv)))
  (fun u=>a.fin.length+1 - u.1) ?_ (0,[Yb a 0],3,5,6,Z2) ⟨QI.zero ha,z20,z21,z2m,by rw[v0w];exact z2c,z2o,by simpa[f1l]using z2f,by rw[v0w];exact z2v⟩
 clear z20 z21 z2c z2f z2v z2o z2m;clear Z2;rintro⟨n,O,o,f,v,G⟩ ⟨hQ,g0,g1,gm,gc,go,gf,gv⟩ ih;simp only at hQ g0 g1 gm gc go gf gv ih ⊢;have w8:=hQ.len ha;have yy:=hQ.cl;repeat first|(refine r_ ?_;simp)|refine q_ ?_
 refine Qa rfl (fun xl=> ?_) (fun xn=> ?_)
 ·have zd:n<O.length:=by simpa using xl
  have hw:IntKind.i64.wrap ((n:Int)+1)=n+1:=wrap_i64 _ (by omega) (by omega);have y5:O[n]? =some O[n]:=zP zd;have zl:=yy _ (zT zd);have yz:=hQ.step ha y5;have x3:=j1k hQ y5;have x4:=v1y a (Ps a O[n]) y5;have xp:=d1b ha hQ;have zx:=fun o' f' v' G'=>ih (n+1,Wk O (Ps a O[n]),o',f',v',G');simp only[x3,x4]at zx;clear x3 x4 ih;have xq:((T0 O).map AV.i).length=O.length:=by simp
  have x5:=(P7 ha zl).1;have xr:=q06 ha zl;have xt:=xk _ zl;have xu:=v0p a O[n];have xw:=Lt ha zl;have x6:∀m∈Ps a O[n],∃d:Nat,m.dst=d∧d≤1000000:=fun m hm=>by obtain⟨x,_,e,_,e2,_⟩:=Zp ha zl hm;exact⟨_,e,k01 ha e2⟩
  generalize xy:O[n]=c at *
  have x7:=y0g x5;have xz:∀hh,a.fin[Iz a c]'hh=a.fin.getD (Iz a c) false:=fun hh=>(yJ hh).2 x7;generalize a.fin.getD (Iz a c) false=b at *
  have w9:(Q8 a (Iz a c:Nat)).length≤a.mv.length:=xW _ _;have wa:=ha.ok.mvs;have y6:o≠f:=fun e=>by rw[e,gf]at go;simp at go
  have y7:o≠v:=fun e=>by rw[e,gv]at go;simp at go
  have ze:f≠v:=fun e=>by rw[e,gv]at gf;simp at gf
  have zy:o≠4:=fun e=>by rw[e,gc]at go;simp at go
  have zj:f≠4:=fun e=>by rw[e,gc]at gf;simp at gf
  have zn:v≠4:=fun e=>by rw[e,gc]at gv;simp at gv
  have x8:o≠0:=fun e=>by rw[e,g0]at go;simp at go
  have w2:f≠0:=fun e=>by rw[e,g0]at gf;simp at gf
  have y8:v≠0:=fun e=>by rw[e,g0]at gv;simp at gv
  have x9:o≠1:=fun e=>by rw[e,g1]at go;simp at go
  have y9:f≠1:=fun e=>by rw[e,g1]at gf;simp at gf
  have zp:v≠1:=fun e=>by rw[e,g1]at gv;simp at gv
  have ya:o≠2:=fun e=>by rw[e,gm]at go;unfold mpO at go;simp at go
  have yb:f≠2:=fun e=>by rw[e,gm]at gf;unfold mpO at gf;simp at gf
  have zz:v≠2:=fun e=>by rw[e,gm]at gv;unfold mpO at gv;simp at gv
  repeat first|(refine r_ ?_;simp[go,xq,zd,xy])|refine q_ ?_
  refine Qe rfl rfl (by simp) (w0c CL c) rfl ?_;rintro _ rfl;simp;rw[xt];repeat first|(refine r_ ?_;simp)|refine q_ ?_
  have zq:((qF a (O.take n)).map AV.bool).length=n:=by simp[x1o];omega
  generalize wb:(qF a (O.take n))=fs at *;refine Qk tOk mixed [9,11] (.val 0 (.val 1 (.val 2 (.val 3 (.val 4 (.val 5 (.val 6 (.val 7 (.one 8 (.one 9 (.val 10 (.one 11 (.done))))))))))))) rfl (by kernel_rfl) ?_
  simp[gc,g0,x5,x7,xz];have g2c:∀M,(G.set f .dead++M)[4]? =some (.vars [.i a.types,.sl f 1 0 n,.sl v 3 0 (qM a n O).length]):=fun M=>Qb (Qc zj gc _) M;have g2d:∀M hh,(G.set f .dead++M)[4]'hh= .vars [.i a.types,.sl f 1 0 n,.sl v 3 0 (qM a n O).length]:=fun M hh=>(yJ hh).2 (g2c M);refine Qh tOk rfl rfl T22 rfl T4 rfl (by decide) (by decide) rfl rfl rfl ?_;simp[Qb gf,Qj gf,gf,zq,g2c,g2d];refine⟨by simp[Wp,Qb gf,Qj gf,gf,zq,g2c,g2d]<;>omega,?_⟩;refine Q9 fun Z hZ=> ?_;have yd:=Qi go;have ye:=Qi gv;have yg:=Qi gf;have z0:Z[0]? =some (d03 a):=by rw[hZ];exact Qc (by decide) (Qb (Qc w2 g0 _) _) _
  have z1:Z[1]? =some (.vars [.i 0,.nils,.nils]):=by rw[hZ];exact Qc (by decide) (Qb (Qc y9 g1 _) _) _
  have zm:Z[2]? =some (mpO O):=by rw[hZ];exact Qc (by decide) (Qb (Qc yb gm _) _) _
  have zc:Z[4]? =some (.vars [.i a.types,.sl (G.length+1) 1 0 (n+1),.sl v 3 0 (qM a n O).length]):=by rw[hZ];exact Qg (g2c _) _
  have zf:Z[G.length+1]? =some (.arr 4 1 ((fs++[b]).map .bool)):=by rw[hZ,zH (by omega),zO (by simp)];simp
  have zv:Z[v]? =some (.arr 78 3 ((qM a n O).map encMv)):=by rw[hZ];exact Qc (Ne.symm zn) (Qb (Qc ze gv _) _) _
  have zo:Z[o]? =some (.arr 3 1 ((T0 O).map .i)):=by rw[hZ];exact Qc (Ne.symm zy) (Qb (Qc (Ne.symm y6) go _) _) _
  clear hZ g2c g2d g0 g1 gc go gf gv gm;generalize G.length+1=f1 at *
  have cMc:=cM (Iz a c) xr;rw[xu]at cMc;obtain⟨M,hM⟩:∃M,M=qM a n O:=⟨_,rfl⟩
  rw[←hM]at zc zv xp zx;obtain⟨L,hL⟩:∃L,L=Ps a c:=⟨_,rfl⟩
  rw[←hL]at xw x6 zx yz cMc;repeat first|(refine r_ ?_;simp[z0])|refine q_ ?_
  refine Qe rfl rfl (by simp) (cMc) rfl ?_;rintro _ rfl;simp;repeat first|(refine r_ ?_;simp)|refine q_ ?_
  refine Qr (Qd (sl':=[(1,.vptr 0 0),(2,.vptr 1 0),(3,LI CL),(4,.mref 2),(5,.sl o 1 0 (Wk O (L.take 0)).length),(6,.vptr 4 0),(7,.i n),(54,.list (L.map encMv)),(55,.i L.length),(56,.i (0:Nat))]) ?_ (by simp[Un]));refine Qq (P:=Tryz.prog) (F:=fun(u:Nat×Nat×Nat×List AObj)=>⟨[(1,.vptr 0 0),(2,.vptr 1 0),(3,LI CL),(4,.mref 2),(5,.sl u.2.1 1 0 (Wk O (L.take u.1)).length),(6,.vptr 4 0),(7,.i n),(54,.list (L.map encMv)),(55,.i L.length),(56,.i u.1)],u.2.2.2⟩)
   (fun u=>u.1≤L.length∧u.2.2.2[0]? =some (d03 a)∧u.2.2.2[1]? =some (.vars [.i 0,.nils,.nils])∧u.2.2.2[2]? =some (mpO (Wk O (L.take u.1)))∧u.2.2.2[4]? =some (.vars [.i a.types,.sl f1 1 0 (n+1),.sl u.2.2.1 3 0 (M++qMv O L n u.1).length])∧u.2.2.2[u.2.1]? =some (.arr 3 1 ((T0 (Wk O (L.take u.1))).map .i))∧u.2.2.2[f1]? =some (.arr 4 1 ((fs++[b]).map .bool))∧u.2.2.2[u.2.2.1]? =some (.arr 78 3 ((M++qMv O L n u.1).map encMv))∧(Wk O (L.take u.1)).Nodup∧∀c∈Wk O (L.take u.1),c≤1000000)
   (fun u=>L.length - u.1) ?_ (0,o,v,Z) ⟨wK _,z0,z1,by rw[wA,Un];exact zm,by rw[q0u,xS];exact zc,by rw[wA,Un];exact zo,zf,by rw[q0u,xS];exact zv,by rw[wA,Un];exact hQ.nd,by rw[wA,Un];exact fun c hc=>k01 ha (yy c hc)⟩
  clear z0 z1 zc zo zf zv yd ye yg zm;clear Z;rintro⟨j,o,v,Z⟩ ⟨hj,z0,z1,zm,zc,zo,zf,zv,y2,zb⟩ ih2;simp only at hj z0 z1 zm zc zo zf zv y2 zb ih2 ⊢;repeat first|(refine r_ ?_;simp)|refine q_ ?_
  refine Qa rfl (fun yh=> ?_) (fun yi=> ?_)
  ·have z7:j<L.length:=by simpa using yh
   have xa:IntKind.i64.wrap ((j:Int)+1)=j+1:=wrap_i64 _ (by omega) (by omega);have xb:=w14 O L n z7;have xd:=Gr (o:=O) z7;have we:=u1a O L n j;have wg:(Wk O (L.take j)).length≤O.length+L.length:=z0r O (L.take j) (by simp;omega);have z6:=fun o' v' Z'=>ih2 (j+1,o',v',Z');simp only[xb,xd,←xZ]at z6;clear xb xd;obtain⟨d,hd,yj⟩:=x6 _ (zT z7);have yk:(L.map encMv)[j]? =some (encMv L[j]):=by simp[z7]
   have yl:∀hh,(L.map encMv)[j]'hh=encMv L[j]:=fun hh=>by simp
   generalize w3:L[j]=m at *;rw[hd]at z6;simp only[Int.toNat_natCast]at z6;generalize hN:M++qMv O L n j=N at *
   have wh:N.length≤700000:=by rw[←hN,yS];omega
   generalize Wk O (L.take j)=Oj at *;simp only[encMv]at yk yl;rw[hd]at yk yl
   have wi:4<Z.length:=Qi zc;have y6:o≠f1:=fun e=>by rw[e,zf]at zo;simp at zo
   have y7:o≠v:=fun e=>by rw[e,zv]at zo;simp at zo
   have ze:f1≠v:=fun e=>by rw[e,zv]at zf;simp at zf
   have zy:o≠4:=fun e=>by rw[e,zc]at zo;simp at zo
   have zj:f1≠4:=fun e=>by rw[e,zc]at zf;simp at zf
   have zn:v≠4:=fun e=>by rw[e,zc]at zv;simp at zv
   have x8:o≠0:=fun e=>by rw[e,z0]at zo;simp at zo
   have y8:v≠0:=fun e=>by rw[e,z0]at zv;simp at zv
   have x9:o≠1:=fun e=>by rw[e,z1]at zo;simp at zo
   have zp:v≠1:=fun e=>by rw[e,z1]at zv;simp at zv
   have ya:o≠2:=fun e=>by rw[e,zm]at zo;unfold mpO at zo;simp at zo
   have zz:v≠2:=fun e=>by rw[e,zm]at zv;unfold mpO at zv;simp at zv
   have yb:f1≠2:=fun e=>by rw[e,zm]at zf;unfold mpO at zf;simp at zf
   repeat first|(refine r_ ?_;simp[yk,yl,z7])|refine q_ ?_
   refine Hc fun Y hY=> ?_;have y0:Y[0]? =some (d03 a):=by rw[hY];exact Qb z0 _
   have y1:Y[1]? =some (.vars [.i 0,.nils,.nils]):=by rw[hY];exact Qb z1 _
   have ym:Y[2]? =some (mpO Oj):=by rw[hY];exact Qb zm _
   have yc:Y[4]? =some (.vars [.i a.types,.sl f1 1 0 (n+1),.sl v 3 0 N.length]):=by rw[hY];exact Qb zc _
   have yo:Y[o]? =some (.arr 3 1 ((T0 Oj).map .i)):=by rw[hY];exact Qb zo _
   have yf:Y[f1]? =some (.arr 4 1 ((fs++[b]).map .bool)):=by rw[hY];exact Qb zf _
   have yv:Y[v]? =some (.arr 78 3 (N.map encMv)):=by rw[hY];exact Qb zv _
   have yx:Y[Z.length]? =some (.vars [.i m.src,.i d,.list (m.on.map encL)]):=by rw[hY,zO (by simp)];simp
   clear hY z0 z1 zm zc zo zf zv;generalize Z.length=u at *;clear Z
   have wj:v≠u:=fun e=>by rw[e,yx]at yv;simp at yv
   have w4:o≠u:=fun e=>by rw[e,yx]at yo;simp at yo
   have w5:2≠u:=fun e=>by rw[←e,ym]at yx;unfold mpO at yx;simp at yx
   have wk:4<u:=by omega
   refine Nn rfl rfl rfl rfl (c:=d) rfl (l:=Oj) ym y2 zb yj ?_;by_cases hmem:d∈Oj
   ·have zr:Dv Oj d=Oj:=by unfold Dv;rw[if_pos hmem]
    rw[zr]at z6;rw[if_pos hmem,decide_eq_true hmem];obtain⟨x,hx⟩:∃x,x=Zg Oj d:=⟨_,rfl⟩
    rw[←hx]at z6 ⊢;clear hx zr;simp;repeat first|(refine r_ ?_;simp)|refine q_ ?_
    refine Qm rfl ?_;simp;have zg:=zy;have zh:=y7;have zi:=y2;have yn:=zb;have zt:(N.map encMv).length=N.length:=by simp
    have yp:(N++[(⟨n,x,m.on⟩:Mv)]).map encMv=N.map encMv++[encMv ⟨n,x,m.on⟩]:=by simp
    have yq:(N++[(⟨n,x,m.on⟩:Mv)]).length=N.length+1:=by simp
    rw[yp,yq]at z6;generalize N.map encMv=NM at *
    have g3c:∀M,(Y.set v .dead++M)[4]? =some (.vars [.i a.types,.sl f1 1 0 (n+1),.sl v 3 0 N.length]):=fun M=>Qb (Qc zn yc _) M;have g3d:∀M hh,(Y.set v .dead++M)[4]'hh= .vars [.i a.types,.sl f1 1 0 (n+1),.sl v 3 0 N.length]:=fun M hh=>(yJ hh).2 (g3c M);repeat first|(refine r_ ?_;simp[yc,yx])|refine q_ ?_
    refine Qh tOk rfl rfl T23 rfl T78 rfl (by decide) (by decide) rfl rfl rfl ?_;simp[Qb yv,Qj yv,yv,zt,g3c,g3d];refine⟨by simp[Wp,Qb yv,Qj yv,yv,zt,g3c,g3d]<;>omega,?_⟩;refine Q9 fun W hW=> ?_;have yr:=Qi yv;have yt:=Qi yc;have w0:W[0]? =some (d03 a):=by rw[hW];exact Qc (by decide) (Qb (Qc y8 y0 _) _) _
    have w1:W[1]? =some (.vars [.i 0,.nils,.nils]):=by rw[hW];exact Qc (by decide) (Qb (Qc zp y1 _) _) _
    have wm:W[2]? =some (mpO Oj):=by rw[hW];exact Qc (by decide) (Qb (Qc zz ym _) _) _
    have wc:W[4]? =some (.vars [.i a.types,.sl f1 1 0 (n+1),.sl (Y.length+1) 3 0 (N.length+1)]):=by rw[hW];exact Qg (g3c _) _
    have wo:W[o]? =some (.arr 3 1 ((T0 Oj).map .i)):=by rw[hW];exact Qc (Ne.symm zg) (Qb (Qc (Ne.symm zh) yo _) _) _
    have wf:W[f1]? =some (.arr 4 1 ((fs++[b]).map .bool)):=by rw[hW];exact Qc (Ne.symm zj) (Qb (Qc (Ne.symm ze) yf _) _) _
    have wv:W[Y.length+1]? =some (.arr 78 3 (NM++[encMv ⟨n,x,m.on⟩])):=by rw[hW,zH (by omega),zO (by simp)];simp
    clear hW;repeat first|(refine r_ ?_;simp[xa])|refine q_ ?_
    refine Qd (sl':=[(1,.vptr 0 0),(2,.vptr 1 0),(3,LI CL),(4,.mref 2),(5,.sl o 1 0 Oj.length),(6,.vptr 4 0),(7,.i n),(54,.list (L.map encMv)),(55,.i L.length),(56,.i (j+1:Nat))]) ?_ (by simp);exact z6 o (Y.length+1) W ⟨by omega,w0,w1,wm,wc,wo,wf,wv,zi,yn⟩ (by omega)
   ·have zr:Dv Oj d=Oj++[d]:=by unfold Dv;rw[if_neg hmem]
    have xe:=v0k hmem;rw[zr,xe]at z6;rw[if_neg hmem,decide_eq_false hmem];clear zr xe;simp;repeat first|(refine r_ ?_;simp)|refine q_ ?_
    refine Qm rfl ?_;simp;repeat first|(refine r_ ?_;simp[yx])|refine q_ ?_
    refine x0u rfl rfl rfl rfl (c:=d) rfl (l:=Oj) rfl ym zb yj hmem ?_;simp;refine Q9 fun X hX=> ?_;have x0:X[0]? =some (d03 a):=by rw[hX];exact Qc (by decide) y0 _
    have x1:X[1]? =some (.vars [.i 0,.nils,.nils]):=by rw[hX];exact Qc (by decide) y1 _
    have xm:X[2]? =some (mpO (Oj++[d])):=by rw[hX];exact Qg ym _
    have xc:X[4]? =some (.vars [.i a.types,.sl f1 1 0 (n+1),.sl v 3 0 N.length]):=by rw[hX];exact Qc (by decide) yc _
    have xo:X[o]? =some (.arr 3 1 ((T0 Oj).map .i)):=by rw[hX];exact Qc (Ne.symm ya) yo _
    have xf:X[f1]? =some (.arr 4 1 ((fs++[b]).map .bool)):=by rw[hX];exact Qc (Ne.symm yb) yf _
    have xv:X[v]? =some (.arr 78 3 (N.map encMv)):=by rw[hX];exact Qc (Ne.symm zz) yv _
    have xx:X[u]? =some (.vars [.i m.src,.i d,.list (m.on.map encL)]):=by rw[hX];exact Qc w5 yx _
    clear hX y0 y1 ym yc yo yf yv yx;clear Y;have w6:(T0 Oj).length=Oj.length:=by simp
    have w7:T0 (Oj++[d])=T0 Oj++[(d:Int)]:=by simp
    rw[w7]at z6;generalize T0 Oj=NO at *
    have zu:(NO.map AV.i).length=Oj.length:=by simp[w6]
    have x0s:∀E,(X.set o .dead++E)[u]? =some (.vars [.i m.src,.i d,.list (m.on.map encL)]):=fun E=>Qb (Qc w4 xx _) E;repeat first|(refine r_ ?_;simp[xx])|refine q_ ?_
    refine Qh tOk rfl rfl T40 rfl T3 rfl (by decide) (by decide) rfl rfl rfl ?_;simp[Qb xo,Qj xo,xo,zu];refine⟨by simp[Wp,Qb xo,Qj xo,xo,zu]<;>omega,?_⟩;refine Q9 fun Y hY=> ?_;have wq:=Qi xv;have wu:=Qi xf;have wx:=Qi xc;have y0:Y[0]? =some (d03 a):=by rw[hY];exact Qb (Qc x8 x0 _) _
    have y1:Y[1]? =some (.vars [.i 0,.nils,.nils]):=by rw[hY];exact Qb (Qc x9 x1 _) _
    have ym:Y[2]? =some (mpO (Oj++[d])):=by rw[hY];exact Qb (Qc ya xm _) _
    have yc:Y[4]? =some (.vars [.i a.types,.sl f1 1 0 (n+1),.sl v 3 0 N.length]):=by rw[hY];exact Qb (Qc zy xc _) _
    have yf:Y[f1]? =some (.arr 4 1 ((fs++[b]).map .bool)):=by rw[hY];exact Qb (Qc y6 xf _) _
    have yv:Y[v]? =some (.arr 78 3 (N.map encMv)):=by rw[hY];exact Qb (Qc y7 xv _) _
    have yx:Y[u]? =some (.vars [.i m.src,.i d,.list (m.on.map encL)]):=by rw[hY];exact x0s _
    have yo:Y[X.length+1]? =some (.arr 3 1 ((NO++[(d:Int)]).map .i)):=by rw[hY,zO (by simp)];simp
    clear hY;obtain⟨x,hx⟩:∃x,x=Oj.length:=⟨_,rfl⟩
    refine Qx (sl':=[(1,.vptr 0 0),(2,.vptr 1 0),(3,LI CL),(4,.mref 2),(5,.sl (X.length+1) 1 0 (Oj++[d]).length),(6,.vptr 4 0),(7,.i n),(10,.vptr u 0),(11,.i x),(54,.list (L.map encMv)),(55,.i L.length),(56,.i j)]) ?_ (by simp[hx]);rw[←hx]at z6;have zg:X.length+1≠4:=by omega
    have zh:X.length+1≠v:=by omega
    have zi:(Oj++[d]).Nodup:=vT.2 ⟨y2,by simp,fun x hx y hy e=>by rw[zW.1 hy]at e;exact hmem (e▸hx)⟩;have yn:∀c∈Oj++[d],c≤1000000:=fun c hc=>by
     rcases yE.1 hc with hc|hc
     ·exact zb c hc
     ·rw[zW.1 hc];exact yj
    generalize X.length+1=oq at *;generalize NO++[(d:Int)]=NQ at *;clear hx;generalize Oj++[d]=OQ at *
    have zt:(N.map encMv).length=N.length:=by simp
    have yp:(N++[(⟨n,x,m.on⟩:Mv)]).map encMv=N.map encMv++[encMv ⟨n,x,m.on⟩]:=by simp
    have yq:(N++[(⟨n,x,m.on⟩:Mv)]).length=N.length+1:=by simp
    rw[yp,yq]at z6;generalize N.map encMv=NM at *
    have g3c:∀M,(Y.set v .dead++M)[4]? =some (.vars [.i a.types,.sl f1 1 0 (n+1),.sl v 3 0 N.length]):=fun M=>Qb (Qc zn yc _) M;have g3d:∀M hh,(Y.set v .dead++M)[4]'hh= .vars [.i a.types,.sl f1 1 0 (n+1),.sl v 3 0 N.length]:=fun M hh=>(yJ hh).2 (g3c M);repeat first|(refine r_ ?_;simp[yc,yx])|refine q_ ?_
    refine Qh tOk rfl rfl T23 rfl T78 rfl (by decide) (by decide) rfl rfl rfl ?_;simp[Qb yv,Qj yv,yv,zt,g3c,g3d];refine⟨by simp[Wp,Qb yv,Qj yv,yv,zt,g3c,g3d]<;>omega,?_⟩;refine Q9 fun W hW=> ?_;have yr:=Qi yv;have yt:=Qi yc;have w0:W[0]? =some (d03 a):=by rw[hW];exact Qc (by decide) (Qb (Qc y8 y0 _) _) _
    have w1:W[1]? =some (.vars [.i 0,.nils,.nils]):=by rw[hW];exact Qc (by decide) (Qb (Qc zp y1 _) _) _
    have wm:W[2]? =some (mpO OQ):=by rw[hW];exact Qc (by decide) (Qb (Qc zz ym _) _) _
    have wc:W[4]? =some (.vars [.i a.types,.sl f1 1 0 (n+1),.sl (Y.length+1) 3 0 (N.length+1)]):=by rw[hW];exact Qg (g3c _) _
    have wo:W[oq]? =some (.arr 3 1 (NQ.map .i)):=by rw[hW];exact Qc (Ne.symm zg) (Qb (Qc (Ne.symm zh) yo _) _) _
    have wf:W[f1]? =some (.arr 4 1 ((fs++[b]).map .bool)):=by rw[hW];exact Qc (Ne.symm zj) (Qb (Qc (Ne.symm ze) yf _) _) _
    have wv:W[Y.length+1]? =some (.arr 78 3 (NM++[encMv ⟨n,x,m.on⟩])):=by rw[hW,zH (by omega),zO (by simp)];simp
    clear hW;repeat first|(refine r_ ?_;simp[xa])|refine q_ ?_
    refine Qd (sl':=[(1,.vptr 0 0),(2,.vptr 1 0),(3,LI CL),(4,.mref 2),(5,.sl oq 1 0 OQ.length),(6,.vptr 4 0),(7,.i n),(54,.list (L.map encMv)),(55,.i L.length),(56,.i (j+1:Nat))]) ?_ (by simp);exact z6 oq (Y.length+1) W ⟨by omega,w0,w1,wm,wc,wo,wf,wv,zi,yn⟩ (by omega)
  ·have zw:j=L.length:=by simp at yi;omega
   subst zw;rw[xD]at zo zm ⊢;repeat first|(refine r_ ?_;simp[hw])|refine q_ ?_
   refine Qd (sl':=[(1,.vptr 0 0),(2,.vptr 1 0),(3,LI CL),(4,.mref 2),(5,.sl o 1 0 (Wk O L).length),(6,.vptr 4 0),(7,.i (n+1:Nat))]) ?_ (by simp);exact zx o f1 v Z ⟨yz,z0,z1,zm,zc,zo,zf,zv⟩ (by omega)
 ·have yu:n=O.length:=by simp at xn;have:=hQ.le;omega
  rw[x18 ha hQ yu];have xg:=x1o a (O.take n);rw[wD,Nat.min_eq_left hQ.le]at xg;generalize qF a (O.take n)=fs at *;generalize qM a n O=M at *
  have ze:f≠v:=fun e=>by rw[e,gv]at gf;simp at gf
  have zj:f≠4:=fun e=>by rw[e,gc]at gf;simp at gf
  have zn:v≠4:=fun e=>by rw[e,gc]at gv;simp at gv
  have y9:f≠1:=fun e=>by rw[e,g1]at gf;simp at gf
  have zp:v≠1:=fun e=>by rw[e,g1]at gv;simp at gv
  rw[←xg]at gc;refine Qx (sl':=[(2,.vptr 1 0),(6,.vptr 4 0)]) ?_ (by simp);refine We v gv 4 gc ?_;simp[ze];rw[zZ (by simp)];refine Q9 fun Z hZ=> ?_;have wy:=Qi gv;have z2:Z[4]? =some (.vars [.i a.types,.sl f 1 0 fs.length,.list (M.map encMv)]):=by rw[hZ,zU (by have:=Qi gc;simpa using this)]
  have zf:Z[f]? =some (.arr 4 1 (fs.map .bool)):=by rw[hZ,zH (Ne.symm zj),zH (Ne.symm ze)];exact gf
  have z1:Z[1]? =some (.vars [.i 0,.nils,.nils]):=by rw[hZ,zH (by decide),zH zp];exact g1
  clear hZ;refine We f zf 4 z2 ?_;simp;rw[zZ (by simp)];refine Q9 fun X hX=> ?_;have x2:X[4]? =some (.vars [.i a.types,.list (fs.map .bool),.list (M.map encMv)]):=by rw[hX,zU (by have:=Qi z2;simpa using this)]
  have x1:X[1]? =some (.vars [.i 0,.nils,.nils]):=by rw[hX,zH (by decide),zH y9];exact z1
  clear hX;have x1s:∀Y,(X.set 1 Y)[1]? =some Y:=fun Y=>Qg x1 Y;repeat first|(refine r_ ?_;simp[x2,x1,x1s])|refine q_ ?_
end Go.Abs
namespace Go.Abs
open Go Go.Proofs
theorem w1n{a:Aut}(ha:Dfa a){m:Mv}(hm:m∈(Ev a).mv):E2 a.types m.on=0↔(m.on.any fun s=>decide (256<s.length))=false:=by
 have h:=y1i ha;have hT:=ha.ok.types;have hw:PWf a.types.toNat m.on:=h.on m hm;rw[W6];simp only[List.any_eq_false,decide_eq_true_eq];constructor
 ·rintro⟨_,h2⟩ s hs;have:=(h2.2 s hs).len;omega
 ·intro h2;refine⟨hT,hw.1,fun s hs=> ?_⟩;have z1:=hw.2 s hs;exact Fu z1.1 (q0t z1.1 z1.2) (by have:=h2 s hs;omega)
theorem f0l{a:Aut}(h:Wf a≠0):(R4 a).1=Wf a:=by unfold R4;rw[B0 h,if_pos h]
theorem j02{a:Aut}(h:(R4 a).1≠0):Jp a=((R4 a).1,Uv):=by rw[Jp,if_pos h]
theorem k1x{a:Aut}(h:Wf a≠0):Jp a=(Wf a,Uv):=by rw[j02 (by rw[f0l h];exact h),f0l h]
theorem Lq{a:Aut}(h:(R4 a).1=0):A4 (R4 a).2=A0 (R4 a).2:=by rw[A4,if_neg (fun k=>k ((Yy _).2 (c1j h)))]
theorem u1n{a:Aut}(h:(R4 a).1=0)(h2:(A4 (R4 a).2).1≠0):Jp a=((A4 (R4 a).2).1,Uv):=by rw[Lq h]at *;rw[Jp,if_neg (fun k=>k h),if_pos h2]
theorem g1r{a:Aut}(h:(R4 a).1=0)(h2:(A4 (R4 a).2).1=0):Jp a=if Bf (Ev (A4 (R4 a).2).2)then(5,Uv)else(0,Ev (A4 (R4 a).2).2):=by rw[Lq h]at *;rw[Jp,if_neg (fun k=>k h),if_neg (fun k=>k h2)]
theorem c0c{a:Aut}(z1:Wf a=0)(h:(R4 a).1=0)(h2:(A4 (R4 a).2).1=0):Dfa (A4 (R4 a).2).2:=by rw[Lq h]at *;exact(u1b ((Yy a).1 z1) (d:=(R4 a).2) (c:=(A0 (R4 a).2).2) (t8 h rfl) (t8 h2 rfl)).1
end Go.Abs
