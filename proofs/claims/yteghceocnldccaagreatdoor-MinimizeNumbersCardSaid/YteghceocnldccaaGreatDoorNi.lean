/- Part Ni of the proof: an abstract machine over the model, and what the functions of the program hand back in its terms. No condition. -/
import Derived.Test.YteghceocnldccaaGreatDoorNh
import Derived.Test.YteghceocnldccaaGreatDoorNg
import Derived.Test.YteghceocnldccaaGreatDoorNe
import Derived.Test.YteghceocnldccaaGreatDoorNf
import Derived.Test.YteghceocnldccaaGreatDoorNc
import Derived.Shelf.SlGeneric
import Derived.Ground.SlsfProg
import Derived.Shelf.SlSortCmp.WholeK
import Derived.Test.YteghceocnldccaaGreatDoorProg
import Derived.Test.YteghceocnldccaaGreatDoorNd
set_option linter.all false
open List renaming mem_map→zX,filter_append→ui,foldl_append→vA,mem_filter→xU,getElem?_append_right→zL,getElem?_append_left→zI,getElem?_set_ne→zH,getElem_eq_iff→yJ,append_nil→xO,take_of_length_le→zV,getElem_mem→zT,findIdx?_map→tF,range→yV,mem_range→xJ,take_succ_eq_append_getElem→zY,length_map→yO,getElem?_map→yI,getElem?_eq_some_iff→zE,pairwise_map→wU,pairwise_iff_getElem→yU,take_zero→wM,take_append_drop→xY,flatMap_append→ww,length_append→yL,map→wV,map_append→yX,take_length→xB,mem_of_mem_take→xV,getElem?_eq_getElem→zP,map_map→v_,nodup_append→vT,mem_singleton→z_,foldl_cons→x_,mem_cons→yP,ext_getElem?→xW,getElem?_set_self→zU,getElem_inj→ua,getElem?_eq_none→xI,map_congr_left→xZ,mem_of_getElem?→zO,getElem?_mapIdx→vP,findIdx?_eq_none_iff→vD,mem_append_left→xL,append_assoc→wd,getD→y_,mem_append→yH,range_succ→wQ,flatMap_def→tN,map_cons→xH,map_nil→vB,length_cons→yY,length_filter_le→xX,getElem?_zipIdx→tt,mem_iff_getElem?→yR,length_take→wp
open Option renaming map_eq_some_iff→zZ
open Int renaming le_refl→xF
open Nat renaming zero_le→wD,le_refl→zW,le_trans→yW,lt_of_lt_of_le→wt
open Bool renaming eq_iff_iff→wO,not_eq_true→uT
open Prod renaming ext→ta
set_option maxHeartbeats 16000000
set_option linter.unusedSimpArgs false
set_option maxRecDepth 100000
namespace Go.Abs
open Go Go.Proofs Go.Maps Go.RowKit
attribute [simp] y27 x2j
abbrev PQ:=(Int×Int)×List Sy
def x2y(e:PQ):AV:= .agg [.i e.1.1,.i e.1.2,.list (e.2.map encSy)]
def y2a(L:List PQ)(s:Int×Int):Bool:=decide (s∈L.map (·.1))
structure PInv (a b:Aut) (L:List PQ):Prop where
 nd:(L.map (·.1)).Nodup
 rng:∀e∈L,inS a e.1.1∧inS b e.1.2
 wl:∀(i:Nat) (e:PQ),L[i]? =some e→e.2.length≤i
def x2g(r:Option (List Sy)):AV:= .tup [LSy (r.getD []),.bool r.isSome]
theorem v0i{a b:Aut}(ha:OkA a)(hb:OkA b)(ht:b.types=a.types){x:Sy}(hx:x∈Ep a b):Ew a x:=by have:=(Zf ha hb ht (0,0)).mem (x,T6 a b (0,0) x) (zX.2 ⟨x,hx,rfl⟩);exact this.1
theorem Bs{a b:Aut}(ha:OkA a)(hb:OkA b)(ht:b.types=a.types):(Ep a b).length≤40000000:=by obtain⟨z1,z6⟩:=k07 ha hb ht;have:=(Dc (T:=a.types.toNat) (by have:=ha.types;omega) (by have:=ha.types;omega) z1 z6).1;unfold Ep;simpa using this
attribute [local irreducible] Ep toL g1v Df u0i y2a Tt Ao
end Go.Abs
namespace Go.Abs
open Go Go.Proofs Go.Maps Go.RowKit
instance inS_dec (a:Aut) (s:Int):Decidable (inS a s):=by unfold inS;exact inferInstance
def v1e(a:Aut)(p q:Int):Option (List Sy)×Int:=if Y6 a≠0 then(none,Y6 a)else if inS a p∧inS a q then((Ao a a p q).1,0)else(none,6)
def u1p(r:Option (List Sy)×Int):AV:= .tup [LSy (r.1.getD []),.bool r.1.isSome,.i r.2]
attribute [local irreducible] Y6 Ao
abbrev Tr (l:List Nat):List Int:=l.map fun x:Nat=>(x:Int)
attribute [local irreducible] eqS x2v
def v1x(a:Aut):List Int×Int:=if Y6 a≠0 then([],Y6 a)else(Tr (clA a),0)
end Go.Abs
namespace Go.Abs
open Go Go.Proofs Go.Maps Go.RowKit
def bst(near:Ij)(d:Nat)(pre:List Stp):Option Stp:=d0n (pre.filter fun e=>decide (lkN near e.2=some d))
def g1l(near:Ij)(d:Nat)(b:Option Stp)(e:Stp):Option Stp:=if lkN near e.2=some d then(match b with|none=>some e|some c=>if Zl e.1 c.1 then some e else some c)else b
theorem d0t(near:Ij)(d:Nat):bst near d []=none:=rfl
theorem c0z(near:Ij)(d:Nat)(pre:List Stp)(e:Stp):bst near d (pre++[e])=g1l near d (bst near d pre) e:=by
 unfold bst g1l d0n;rw[ui,vA];by_cases h:lkN near e.2=some d
 ·rw[if_pos h];have:[e].filter (fun e=>decide (lkN near e.2=some d))=[e]:=by simp[h]
  rw[this];rfl
 ·rw[if_neg h];have:[e].filter (fun e=>decide (lkN near e.2=some d))=[]:=by simp[h]
  rw[this];rfl
theorem u1c{near:Ij}{d:Nat}{es:List Stp}{e:Stp}(h:bst near d es=some e):e∈es:=by
 have z1:es.filter (fun e=>decide (lkN near e.2=some d))≠[]:=fun k=>by rw[bst,k]at h;cases h
 obtain⟨f,h1,h2,_⟩:=X4 z1;rw[bst,h1]at h;cases h;exact(xU.1 h2).1
def g1o(b:Option Stp):List AV:=match b with
 |some e=>[.i e.1.ty,.i e.1.num,.i e.2.1,.i e.2.2]
 |none=>[.i 0,.i 0,.i 0,.i 0]
theorem x0z(a:Aut)(near:Ij)(s:Int×Int):Yr a near 0 s=[]:=by rw[Yr]
def g1n(b:Option Stp):Int×Int:=match b with
 |some e=>e.2
 |none=>(0,0)
def g1u(b:Option Stp):Sy:=match b with
 |some e=>e.1
 |none=>⟨0,0⟩
theorem z0z(a:Aut)(near:Ij)(d:Nat)(s:Int×Int):Yr a near (d+1) s=g1u (bst near d (Wj a a s))::Yr a near d (g1n (bst near d (Wj a a s))):=by rw[Yr];unfold bst;cases d0n ((Wj a a s).filter fun e=>decide (lkN near e.2=some d))<;>rfl
theorem c1t{a:Aut}{near:Ij}(h:NB a near)(s:Int×Int):(lkN near s).getD 0≤1000000:=by
 cases hl:lkN near s with
 |none=>simp
 |some k=>unfold lkN at hl;obtain⟨e,he,rfl⟩:=zZ.1 hl;exact h.bd e (List.mem_of_find?_eq_some he)
theorem O8(b:Option Stp):g1o b=[.i (g1u b).ty,.i (g1u b).num,.i (g1n b).1,.i (g1n b).2]:=by cases b<;>rfl
attribute [local irreducible] Wa Ei Rv Wj Tt lkN bst Yr Zl
theorem j1b(a:Aut)(ha:OkA a)(H:List AObj)(M:Nat)(near:Ij)(hM:H[M]? =some (mpN near))(hb:NB a near)(p q:Int)(hp:inS a p)(hq:inS a q):
  FC Tryz.prog 90 [Em a,.mref M,.i p,.i q] H (fun r H'=>r=LSy (Yr a near ((lkN near (p,q)).getD 0) (p,q))∧∀i,i<H.length→H'[i]? =H[i]?):=by
 refine W9 tOk Tryz.func90 rfl Tryz.results90 rfl (by simp[Tryz.ntmps90]) ?_;rw[Tryz.ntmps90];simp only[Qg];simp only[Em,Q1];have zl:=ha.fin;have y3:=Qi hM;repeat first|(refine r_ ?_;simp)|refine q_ ?_
 refine Cs rfl rfl rfl rfl (s:=(p,q)) rfl (near:=near) (Qb hM _) hb.nk (Dk ha ha ⟨hp,hq⟩) ?_;simp;have y4:=c1t hb (p,q);generalize (lkN near (p,q)).getD 0=d at *
 repeat first|(refine r_ ?_;simp)|refine q_ ?_
 refine Qw (sl':=[(2,.i p),(3,.i q),(4,.vptr H.length 0),(5,.vptr (H.length+1) 0),(8,.nils),(9,.nils),(10,.vptr (H.length+2) 0)]) ?_ (by simp);refine Q6 9 53 2 rfl ?_;simp;obtain⟨K,hK⟩:∃K,K=H++[AObj.vars (Q1 a),.vars [.mref M]]:=⟨_,rfl⟩
 have y5:K.length=H.length+2:=by rw[hK];simp
 have KA:K[H.length]? =some (.vars (Q1 a)):=by rw[hK,zL (by omega)];simp
 have KN:K[H.length+1]? =some (.vars [.mref M]):=by rw[hK,zL (by omega)];simp
 have KM:K[M]? =some (mpN near):=by rw[hK];exact Qb hM _
 have Kk:∀i,i<H.length→K[i]? =H[i]? :=fun i hi=>by rw[hK,zI hi]
 refine Wf fun Z hZ=> ?_;have zS:SL K Z (H.length+3) 53 2 (([]:List Sy).map encSy):=by
  rw[hZ];refine⟨by rw[zL (by omega)];simp,by omega,fun j hj=> ?_⟩;rw[hK];by_cases h:j<H.length
  ·rw[zI h,zI h]
  ·rw[zL (by omega),zL (by omega)];obtain rfl|rfl:j=H.length∨j=H.length+1:=by omega
   ·simp[Q1]
   ·simp
 have zD:Z[H.length+2]? =some (.vars [.i d]):=by rw[hZ,zL (by omega)];simp
 clear hZ;obtain⟨W,hW⟩:∃W,Yr a near d (p,q)=W:=⟨_,rfl⟩
 rw[hW];refine Qo (Qc (sl':=[(2,.i p),(3,.i q),(4,.vptr H.length 0),(5,.vptr (H.length+1) 0),(8,.nils),(9,.sl (H.length+3) 2 0 ([]:List Sy).length),(10,.vptr (H.length+2) 0)]) ?_ (by simp));refine Qp (P:=Tryz.prog) (F:=fun(u:Nat×List Sy×(Int×Int)×Nat×Nat×List AObj)=>⟨[(2,.i u.2.2.1.1),(3,.i u.2.2.1.2),(4,.vptr H.length 0),(5,.vptr (H.length+1) 0),(8,.nils),(9,.sl u.2.2.2.1 2 0 u.2.1.length),(10,.vptr u.2.2.2.2.1 0)],u.2.2.2.2.2⟩)
  (fun u=>u.2.1.length+u.1=d∧W=u.2.1++Yr a near u.1 u.2.2.1∧inS a u.2.2.1.1∧inS a u.2.2.1.2∧SL K u.2.2.2.2.2 u.2.2.2.1 53 2 (u.2.1.map encSy)∧u.2.2.2.2.2[u.2.2.2.2.1]? =some (.vars [.i u.1])∧K.length≤u.2.2.2.2.1) (fun u=>u.1) ?_ (d,[],(p,q),H.length+3,H.length+2,Z) ⟨by simp,by simpa using hW.symm,hp,hq,zS,zD,by simp only;omega⟩
 clear zS zD hW hp hq;clear Z;rintro⟨e,w,s,q',D,G⟩ ⟨zm,za,zf,zg,hs,gD,zn⟩ ih;simp only at zm za zf zg hs gD zn ih ⊢;have gA:=hs.kp KA;have gN:=hs.kp KN;have gM:=hs.kp KM;have gk:∀i,i<H.length→G[i]? =H[i]? :=fun i hi=>(hs.keep i (by omega)).trans (Kk i hi);repeat first|(refine r_ ?_;simp[gD])|refine q_ ?_
 refine Qa rfl (fun zo=> ?_) (fun zp=> ?_)
 ·obtain⟨e,rfl⟩:∃f,e=f+1:=⟨e - 1,by simp at zo;omega⟩
  rw[z0z]at za;have hw:IntKind.i64.wrap ((e:Int)+1 - 1)=e:=by rw[show(e:Int)+1 - 1=e by omega];exact wrap_i64 _ (by omega) (by omega)
  have z8:IntKind.i64.wrap (e:Int)=e:=wrap_i64 _ (by omega) (by omega);have gA2:∀L,(G++L)[H.length]? =some (.vars [.i a.types,.list (a.fin.map .bool),.list (a.mv.map encMv),.list (Rv a)]):=fun L=>Qb gA L;repeat first|(refine r_ ?_;simp[gA2])|refine q_ ?_
  refine Qe rfl rfl (by simp) (Zo a a s.1 s.2) rfl ?_;rintro _ rfl;simp;repeat first|(refine r_ ?_;simp)|refine q_ ?_
  obtain⟨best,z7⟩:∃best,bst near e (Wj a a s)=best:=⟨_,rfl⟩
  refine Rg rfl (Rf:=fun _ H'=>(∃sl' zd a' b',H'[G.length+2]? =some (.lp true none 71 sl' zd a' b'))∧H'[G.length]? =some (.vars (g1o best))∧∀i,i<G.length→H'[i]? =G[i]?) ?_ ?_
  ·simp;refine Jh fun H1 zb=> ?_;have f0:H1[G.length]? =some (.vars (g1o none)):=by rw[zb,zL (by omega)];simp[g1o]
   have f1:H1[G.length+1]? =some (.vars [.bool false]):=by rw[zb,zL (by omega)];simp
   have fk:∀i,i<G.length→H1[i]? =G[i]? :=fun i hi=>by rw[zb,zI hi]
   have fl:=congrArg (fun h:List AObj=>h[G.length+2]?) zb;have y6:H1.length=G.length+3:=by rw[zb];simp
   simp at fl;clear zb;refine FC.mono (Fv a a ha ha rfl s.1 s.2 zf zg (G.length+2) (by rfl) (by rfl)
    (fun pre H'=>H'[G.length+2]? =H1[G.length+2]? ∧H'[G.length]? =some (.vars (g1o (bst near e pre)))∧H'[G.length+1]? =some (.vars [.bool (bst near e pre).isSome])∧∀i,i<G.length→H'[i]? =G[i]?)
    (fun c H'=>False) H1
    (fun k H' ⟨h2,_,_,_⟩=>h2.trans fl) ?_ ?_ ⟨rfl,by rw[d0t];exact f0,by rw[d0t];exact f1,fk⟩) ?_
   ·rintro k H' L ⟨h2,h3,h5,h4⟩;exact⟨by rw[←h2,zI (by rw[fl]at h2;exact Qi h2)],Qb h3 _,Qb h5 _,fun i hi=>by rw[zI (by have:=Qi h3;omega)];exact h4 i hi⟩
   ·rintro pre x post H' zq ⟨h2,h3,h5,h4⟩ hlen;simp[Tq];have zr:=Fa ha ha (show x∈Wj a a s by rw[zq];simp);have zt:=Dk ha ha zr;have y7:=Qi (h2.trans fl);have z6:=c0z near e pre x;have zz:=Qh (h2.trans fl) .dead;have z0:(H'.set (G.length+2) .dead)[G.length]? =some (.vars (g1o (bst near e pre))):=Qd (j:=G.length+2) (by omega) h3 _;have z1:(H'.set (G.length+2) .dead)[G.length+1]? =some (.vars [.bool (bst near e pre).isSome]):=Qd (j:=G.length+2) (by omega) h5 _;have zk:∀i,i<G.length→(H'.set (G.length+2) .dead)[i]? =G[i]? :=fun i hi=>by rw[zH (by omega)];exact h4 i hi
    have zv:∀i cs,H1.length≤i→H'[i]? =some (.vars cs)→(H'.set (G.length+2) .dead)[i]? =some (.vars cs):=fun i cs hi hc=>by rw[zH (by omega)];exact hc
    have zu:(H'.set (G.length+2) .dead).length=H'.length:=by simp
    rw[←zu];generalize H'.set (G.length+2) .dead=Z at *
    have zN:=(zk _ (Qi gN)).trans gN;have zM:=(zk _ (Qi gM)).trans gM;have zD:=(zk _ (Qi gD)).trans gD;have zNA:∀L,(Z++L)[H.length+1]? =some (.vars [.mref M]):=fun L=>Qb zN L;have zDA:∀L,(Z++L)[D]? =some (.vars [.i ((e:Int)+1)]):=fun L=>Qb zD L;have z1A:∀L,(Z++L)[G.length+1]? =some (.vars [.bool (bst near e pre).isSome]):=fun L=>Qb z1 L;simp only[w1t];repeat first|(refine r_ ?_;simp[zNA,zDA])|refine q_ ?_
    refine Yj rfl rfl rfl rfl (s:=x.2) rfl (near:=near) (Qb zM _) hb.nk zt ?_;simp;unfold g1l at z6;rw[O8]at z0;have z0A:=fun L=>Qb z0 L;have z0H:=fun L hh=>(yJ hh).2 (z0A L);have z1H:∀L hh,(Z++L)[G.length+1]'hh= .vars [.bool (bst near e pre).isSome]:=fun L hh=>(yJ hh).2 (z1A L);generalize bst near e pre=b at *;generalize lkN near x.2=lk at *
    cases lk with
    |none=>
     rw[if_neg (by simp)]at z6;cases b with
     |none=>
      simp at z1A z1H;repeat first|(refine r_ ?_;simp[zDA,z8,z1A,z1H,z0A,z0H])|refine q_ ?_
      refine Q4 rfl rfl ?_;simp;repeat first|(refine r_ ?_;simp)|refine q_ ?_
      refine Qm rfl ?_;repeat first|(refine r_ ?_;simp)|refine q_ ?_
      refine⟨Qb zz _,rfl,⟨?_,?_,?_,fun i hi=> ?_⟩,fun i cs hi hc=> ?_⟩
      ·rw[fl];exact Qh (Qb zz _) _
      ·rw[z6,O8];exact z0A _
      ·rw[z6];exact z1A _
      ·rw[zH (by omega),zI (by omega)];exact zk i hi
      ·exact Qd (j:=G.length+2) (by omega) (Qb (zv i cs hi hc) _) _
     |some c=>
      simp at z1A z1H;repeat first|(refine r_ ?_;simp[zDA,z8,z1A,z1H,z0A,z0H])|refine q_ ?_
      refine Q4 rfl rfl ?_;simp;repeat first|(refine r_ ?_;simp)|refine q_ ?_
      refine Qm rfl ?_;repeat first|(refine r_ ?_;simp)|refine q_ ?_
      refine⟨Qb zz _,rfl,⟨?_,?_,?_,fun i hi=> ?_⟩,fun i cs hi hc=> ?_⟩
      ·rw[fl];exact Qh (Qb zz _) _
      ·rw[z6,O8];exact z0A _
      ·rw[z6];exact z1A _
      ·rw[zH (by omega),zI (by omega)];exact zk i hi
      ·exact Qd (j:=G.length+2) (by omega) (Qb (zv i cs hi hc) _) _
    |some kd=>
     by_cases hkd:kd=e
     ·subst hkd;rw[if_pos rfl]at z6;cases b with
      |none=>
       simp at z1A z1H;simp only at z6;repeat first|(refine r_ ?_;simp[zDA,z8,z1A,z1H,z0A,z0H])|refine q_ ?_
       refine Q4 rfl rfl ?_;simp;repeat first|(refine r_ ?_;simp)|refine q_ ?_
       refine Qm rfl ?_;repeat first|(refine r_ ?_;simp[z0A,z0H,z1A,z1H,Qh z1])|refine q_ ?_
       refine⟨?_,rfl,⟨?_,?_,?_,fun i hi=> ?_⟩,fun i cs hi hc=> ?_⟩
       ·exact Qd (j:=G.length+1) (by omega) (Qd (j:=G.length) (by omega) (Qb zz _) _) _
       ·rw[fl];exact Qh (Qd (j:=G.length+1) (by omega) (Qd (j:=G.length) (by omega) (Qb zz _) _) _) _
       ·rw[z6];exact Qd (j:=G.length+1) (by omega) (Qh (z0A _) _) _
       ·rw[z6];exact Qh (Qd (j:=G.length) (by omega) (z1A _) _) _
       ·rw[zH (by omega),zH (by omega),zH (by omega),zI (by omega)];exact zk i hi
       ·exact Qd (j:=G.length+2) (by omega) (Qd (j:=G.length+1) (by omega) (Qd (j:=G.length) (by omega) (Qb (zv i cs hi hc) _) _) _) _
      |some c=>
       simp at z1A z1H;simp only at z6;repeat first|(refine r_ ?_;simp[zDA,z8,z1A,z1H,z0A,z0H])|refine q_ ?_
       refine Qe rfl rfl (by simp) (Jy x.1 (g1u (some c))) rfl ?_;rintro _ rfl;simp[z0A];cases hbf:Zl x.1 (g1u (some c))with
       |true=>
        rw[if_pos (show Zl x.1 c.1=true from hbf)]at z6;repeat first|(refine r_ ?_;simp)|refine q_ ?_
        refine Qm rfl ?_;repeat first|(refine r_ ?_;simp[z0A,z0H,z1A,z1H,Qh z1])|refine q_ ?_
        refine⟨?_,rfl,⟨?_,?_,?_,fun i hi=> ?_⟩,fun i cs hi hc=> ?_⟩
        ·exact Qd (j:=G.length+1) (by omega) (Qd (j:=G.length) (by omega) (Qb zz _) _) _
        ·rw[fl];exact Qh (Qd (j:=G.length+1) (by omega) (Qd (j:=G.length) (by omega) (Qb zz _) _) _) _
        ·rw[z6];exact Qd (j:=G.length+1) (by omega) (Qh (z0A _) _) _
        ·rw[z6];exact Qh (Qd (j:=G.length) (by omega) (z1A _) _) _
        ·rw[zH (by omega),zH (by omega),zH (by omega),zI (by omega)];exact zk i hi
        ·exact Qd (j:=G.length+2) (by omega) (Qd (j:=G.length+1) (by omega) (Qd (j:=G.length) (by omega) (Qb (zv i cs hi hc) _) _) _) _
       |false=>
        rw[if_neg (by rw[show Zl x.1 c.1=false from hbf];simp)]at z6;repeat first|(refine r_ ?_;simp)|refine q_ ?_
        refine Qm rfl ?_;repeat first|(refine r_ ?_;simp)|refine q_ ?_
        refine⟨Qb zz _,rfl,⟨?_,?_,?_,fun i hi=> ?_⟩,fun i cs hi hc=> ?_⟩
        ·rw[fl];exact Qh (Qb zz _) _
        ·rw[z6,O8];exact z0A _
        ·rw[z6];exact z1A _
        ·rw[zH (by omega),zI (by omega)];exact zk i hi
        ·exact Qd (j:=G.length+2) (by omega) (Qb (zv i cs hi hc) _) _
     ·have zh:((kd:Int)==(e:Int))=false:=by simp;omega
      rw[if_neg (by simpa using hkd)]at z6;cases b with
      |none=>
       simp at z1A z1H;repeat first|(refine r_ ?_;simp[zDA,z8,zh,z1A,z1H,z0A,z0H])|refine q_ ?_
       refine Q4 rfl rfl ?_;simp;repeat first|(refine r_ ?_;simp)|refine q_ ?_
       refine Qm rfl ?_;repeat first|(refine r_ ?_;simp)|refine q_ ?_
       refine⟨Qb zz _,rfl,⟨?_,?_,?_,fun i hi=> ?_⟩,fun i cs hi hc=> ?_⟩
       ·rw[fl];exact Qh (Qb zz _) _
       ·rw[z6,O8];exact z0A _
       ·rw[z6];exact z1A _
       ·rw[zH (by omega),zI (by omega)];exact zk i hi
       ·exact Qd (j:=G.length+2) (by omega) (Qb (zv i cs hi hc) _) _
      |some c=>
       simp at z1A z1H;repeat first|(refine r_ ?_;simp[zDA,z8,zh,z1A,z1H,z0A,z0H])|refine q_ ?_
       refine Q4 rfl rfl ?_;simp;repeat first|(refine r_ ?_;simp)|refine q_ ?_
       refine Qm rfl ?_;repeat first|(refine r_ ?_;simp)|refine q_ ?_
       refine⟨Qb zz _,rfl,⟨?_,?_,?_,fun i hi=> ?_⟩,fun i cs hi hc=> ?_⟩
       ·rw[fl];exact Qh (Qb zz _) _
       ·rw[z6,O8];exact z0A _
       ·rw[z6];exact z1A _
       ·rw[zH (by omega),zI (by omega)];exact zk i hi
       ·exact Qd (j:=G.length+2) (by omega) (Qb (zv i cs hi hc) _) _
   ·rintro _ H' (⟨h2,h3,h5,h4⟩|⟨c,hc⟩)
    ·rw[z7]at h3;exact⟨⟨_,_,_,_,h2.trans fl⟩,h3,h4⟩
    ·exact hc.elim
  ·rintro _ H' ⟨⟨sl',zd,a',b',h2⟩,h3,h4⟩;refine⟨true,none,71,sl',zd,a',b',by simpa using h2,?_⟩;simp;have zi:inS a (g1n best).1∧inS a (g1n best).2:=by
    cases best with
    |none=>exact⟨⟨xF _,by show(0:Int)<_;omega⟩,⟨xF _,by show(0:Int)<_;omega⟩⟩
    |some x=>exact Fa ha ha (u1c z7)
   rw[z7]at za;rw[O8]at h3;have z0:=Qd (j:=G.length+2) (by omega) h3 .dead;have zk:∀i,i<G.length→(H'.set (G.length+2) .dead)[i]? =G[i]? :=fun i hi=>by rw[zH (by omega)];exact h4 i hi
   have hlen:G.length<(H'.set (G.length+2) .dead).length:=by have:=Qi z0;omega
   generalize H'.set (G.length+2) .dead=Z at *;generalize g1u best=y at *;generalize g1n best=s' at *
   have zc:SL K Z q' 53 2 (w.map encSy):=⟨(zk _ (Qi hs.arr)).trans hs.arr,hs.ge,fun j hj=>(zk j (by have:=Qi hs.arr;have:=hs.ge;omega)).trans (hs.keep j hj)⟩
   have zD:=(zk _ (Qi gD)).trans gD;have zj:(w.map encSy).length=w.length:=by simp
   have zw:q'≠D:=fun e=>by have:=hs.arr;rw[e,gD]at this;simp at this
   have zx:q'≠G.length:=by have:=Qi hs.arr;omega
   have y8:D<G.length:=Qi gD;have zy:W=(w++[y])++Yr a near e s':=by rw[za];simp
   generalize ze:w.map encSy=acc at *
   repeat first|(refine r_ ?_;simp[z0])|refine q_ ?_
   refine Qf tOk rfl rfl T45 rfl T53 rfl (by decide) (by decide) rfl rfl rfl ?_;simp[Qb zc.arr,Qj zc.arr,zj];refine⟨by simp[Wk,Qb zc.arr,Qj zc.arr,zj]<;>omega,?_⟩;have y0:=zc.put [AObj.arr 53 2 [.agg [.i y.ty,.i y.num]]] (acc++[.agg [.i y.ty,.i y.num]]) rfl;have z0A:∀L,(Z.set q' .dead++L)[G.length]? =some (.vars [.i y.ty,.i y.num,.i s'.1,.i s'.2]):=fun L=>Qb (Qd zx z0 _) L;have zDA:∀L,(Z.set q' .dead++L)[D]? =some (.vars [.i ((e:Int)+1)]):=fun L=>Qb (Qd zw zD _) L;repeat first|(refine r_ ?_;simp)|refine q_ ?_
   refine Qk tOk mixed [] (.val 0 (.val 1 (.val 2 (.val 3 (.val 4 (.val 5 (.done))))))) rfl (by kernel_rfl) ?_;simp[z0A];repeat first|(refine r_ ?_;simp[zDA,hw,z8])|refine q_ ?_
   refine Qc (sl':=[(2,.i s'.1),(3,.i s'.2),(4,.vptr H.length 0),(5,.vptr (H.length+1) 0),(8,.nils),(9,.sl (Z.length+1) 2 0 (w++[y]).length),(10,.vptr (Z.length+2) 0)]) ?_ (by simp);have y1:=y0.add [.vars [.i e]];have y9:=zc.le;refine ih (e,w++[y],s',Z.length+1,Z.length+2,_) ⟨by simp;omega,zy,zi.1,zi.2,?_,?_,by simp only;omega⟩ (by simp only;omega)
   ·rw[show(w++[y]).map encSy=acc++[.agg [.i y.ty,.i y.num]] by rw[←ze];simp];simpa using y1
   ·simp only;rw[zL (by simp)];simp
 ·obtain rfl:e=0:=by simp at zp;omega
  rw[x0z,xO]at za;subst za;have y2:=hs.ge;refine Qw (sl':=[(8,.nils),(9,.sl q' 2 0 W.length)]) ?_ (by simp);refine Wl q' hs.arr ?_;simp[AV.fz];rw[zV (by simp)];repeat first|(refine r_ ?_;simp)|refine q_ ?_
  refine fun i hi=> ?_;rw[zH (by omega)];exact gk i hi
end Go.Abs
namespace Go.Abs
open Go Go.Proofs Go.Maps Go.RowKit
theorem g0g(H:List AObj)(q:Nat)(l:List Int)(g:Nat)(cs:List AV)(f:Int→Bool)(hq:H[q]? =some (.arr 3 1 (l.map AV.i)))(n:Nat)(hn:l.length=n)(hl:l.length≤1000000000)(hg:∀z∈l,FC Tryz.prog g ([]++[.i z]++cs) H (fun r H'=>r= .bool (f z)∧H'=H)):
  FC Tryz.prog 119 [.sl q 1 0 n,.fn (.func g) [] cs] H (fun r H'=>r= .i (Kl f l)∧H'=H):=by
 subst hn;refine W9 tOk Tryz.func119 rfl Tryz.results119 rfl (by simp[Tryz.ntmps119]) ?_;rw[Tryz.ntmps119];simp only[Qg];repeat first|(refine r_ ?_;simp)|refine q_ ?_
 refine Qo (Qc (sl':=[(0,.sl q 1 0 l.length),(1,.fn (.func g) [] cs),(7,.i l.length),(8,.i 0)]) ?_ (by simp));refine Qp (F:=fun(j:Nat)=>⟨[(0,.sl q 1 0 l.length),(1,.fn (.func g) [] cs),(7,.i l.length),(8,.i j)],H⟩)
  (fun j=>j≤l.length∧∀i,∀hi:i<l.length,i<j→f l[i]=false) (fun j=>l.length - j) ?_ 0 ⟨by simp,by simp⟩
 rintro j ⟨hj,hI⟩ ih;repeat first|(refine r_ ?_;simp)|refine q_ ?_
 refine Qa rfl (fun z7=> ?_) (fun z8=> ?_)
 ·have z1:j<l.length:=by simpa using z7
  have hw:IntKind.i64.wrap ((j:Int)+1)=j+1:=wrap_i64 _ (by omega) (by omega);have za:(l.map AV.i)[j]? =some (.i l[j]):=by simp[z1]
  have zb:∀hh,(l.map AV.i)[j]'hh= .i l[j]:=fun hh=>by simp
  repeat first|(refine r_ ?_;simp[z1,hq,za,zb])|refine q_ ?_
  refine Q8 rfl rfl (hg _ (zT z1)) rfl ?_;rintro r H' ⟨rfl,rfl⟩;simp;repeat first|(refine r_ ?_;simp)|refine q_ ?_
  refine Qa rfl (fun h=> ?_) (fun h=> ?_)
  ·repeat first|(refine r_ ?_;simp)|refine q_ ?_
   rw[Ga z1 h hI]
  ·repeat first|(refine r_ ?_;simp[hw])|refine q_ ?_
   refine Qc (sl':=[(0,.sl q 1 0 l.length),(1,.fn (.func g) [] cs),(7,.i l.length),(8,.i (j+1:Nat))]) (ih (j+1) ⟨by omega,fun i hi zc=> ?_⟩ (by omega)) (by simp);by_cases e:i=j
   ·subst e;exact h
   ·exact hI i hi (by omega)
 ·have z6:j=l.length:=by simp at z8;omega
  subst z6;repeat first|(refine r_ ?_;simp)|refine q_ ?_
  rw[Az hI]
attribute [local irreducible] Wa Ei Rv Wj Tt lkN Rn Pn
theorem v1s(a:Aut)(i k:Nat):eqS a i k=(lkN (Rn a) ((i:Int),(k:Int))).isNone:=rfl
theorem Bi(a:Aut)(ha:OkA a)(H:List AObj)(N M I:Nat)(i k:Nat)(hN:H[N]? =some (.vars [.mref M]))(hM:H[M]? =some (mpN (Rn a)))(hI:H[I]? =some (.vars [.i i]))(hb:NB a (Rn a))(hi:i<a.fin.length)(hk:k<a.fin.length):
  FC Tryz.prog 144 [.i k,.vptr N 0,.vptr I 0] H (fun r H'=>r= .bool (eqS a i k)∧H'=H):=by
 refine W9 tOk Tryz.func144 rfl Tryz.results144 rfl (by simp[Tryz.ntmps144]) ?_;rw[Tryz.ntmps144];simp only[Qg];rw[v1s];repeat first|(refine r_ ?_;simp[hN,hI])|refine q_ ?_
 refine Yj rfl rfl rfl rfl (s:=((i:Int),(k:Int))) rfl (near:=Rn a) hM hb.nk (Dk ha ha ⟨Um hi,Um hk⟩) ?_;simp;repeat first|(refine r_ ?_;simp)|refine q_ ?_
theorem u1t(E:Nat→Bool)(l:List Nat):Kl (fun z:Int=>E z.toNat) (Tr l)=match l.findIdx? E with|some t=>(t:Int)|none=> -1:=by
 have:(Tr l).findIdx? (fun z:Int=>E z.toNat)=l.findIdx? E:=by
  unfold Tr;rw[tF]
  congr 1
 show(match (Tr l).findIdx? (fun z:Int=>E z.toNat)with|some i=>(i:Int)|none=> -1)=_;rw[this]
attribute [local irreducible] eqS
theorem F9(a:Aut)(ha:Dfa a):PC Tryz.prog 85 [Em a] (fun r=>r=LI (Tr (clA a))):=by
 refine Ql tOk Tryz.func85 rfl Tryz.results85 rfl (by simp[Tryz.ntmps85]) ?_;rw[Tryz.ntmps85];simp only[Qg];simp only[Em,Q1];have zq:=ha.ok.fin;repeat first|(refine r_ ?_;simp)|refine q_ ?_
 refine Q8 rfl rfl (S6 a ha.ok _) rfl ?_;rintro _ Y ⟨M,rfl,zz,zb,zr,hk⟩;simp;have y0:Y[0]? =some (.vars (Q1 a)):=hk 0 (by simp);clear hk;have y1:=Qi zb;have y2:=Qi y0;have y0A:∀L,(Y++L)[0]? =some (.vars [.i a.types,.list (a.fin.map .bool),.list (a.mv.map encMv),.list (Rv a)]):=fun L=>Qb y0 L;have y0H:∀L hh,(Y++L)[0]'hh= .vars [.i a.types,.list (a.fin.map .bool),.list (a.mv.map encMv),.list (Rv a)]:=fun L hh=>(yJ hh).2 (y0A L);repeat first|(refine r_ ?_;simp[y0A,y0H])|refine q_ ?_
 refine Qw (sl':=[(1,.vptr 0 0),(2,.nils),(3,.vptr Y.length 0),(4,.nils),(5,.nils),(13,.i a.fin.length),(14,.i (0:Nat))]) ?_ (by simp);refine Q6 4 3 1 rfl ?_;simp;refine Q6 5 3 1 rfl ?_;simp;refine Wf fun Z hZ=> ?_;have zM:Z[M]? =some (mpN (Rn a)):=by rw[hZ];exact Qb zb _
 have zN:Z[Y.length]? =some (.vars [.mref M]):=by rw[hZ,zL (by omega)];simp
 have zo:Z[Y.length+1]? =some (.arr 3 1 []):=by rw[hZ,zL (by omega)];simp
 have zf:Z[Y.length+2]? =some (.arr 3 1 []):=by rw[hZ,zL (by omega)];simp
 clear hZ y0A y0H y0;generalize Y.length=N at *;clear zb;clear Y
 have zc:Pn (eqS a) 0=([],[]):=by unfold Pn;rfl
 have zd:clA a=(Pn (eqS a) a.fin.length).2:=rfl;rw[zd];refine Qo (Qc (sl':=[(1,.vptr 0 0),(2,.nils),(3,.vptr N 0),(4,.sl (N+1) 1 0 (Pn (eqS a) 0).2.length),(5,.sl (N+2) 1 0 (Pn (eqS a) 0).1.length),(13,.i a.fin.length),(14,.i (0:Nat))]) ?_ (by simp[zc]));refine Qp (P:=Tryz.prog) (F:=fun(u:Nat×Nat×Nat×List AObj)=>⟨[(1,.vptr 0 0),(2,.nils),(3,.vptr N 0),(4,.sl u.2.1 1 0 (Pn (eqS a) u.1).2.length),(5,.sl u.2.2.1 1 0 (Pn (eqS a) u.1).1.length),(13,.i a.fin.length),(14,.i u.1)],u.2.2.2⟩)
  (fun u=>u.1≤a.fin.length∧u.2.2.2[M]? =some (mpN (Rn a))∧u.2.2.2[N]? =some (.vars [.mref M])∧u.2.2.2[u.2.1]? =some (.arr 3 1 ((Tr (Pn (eqS a) u.1).2).map AV.i))∧u.2.2.2[u.2.2.1]? =some (.arr 3 1 ((Tr (Pn (eqS a) u.1).1).map AV.i))∧u.2.1≠u.2.2.1) (fun u=>a.fin.length - u.1) ?_ (0,N+1,N+2,Z) ⟨wD _,zM,zN,by rw[zc];exact zo,by rw[zc];exact zf,by simp⟩
 clear zM zN zo zf;clear Z;rintro⟨i,qo,q9,G⟩ ⟨hi,gM,gN,go,gf,ze⟩ ih;simp only at hi gM gN go gf ze ih ⊢;have z7:=N5 (v13 ha) i hi;have zg:=z7.len;have zh:(Pn (eqS a) i).1.length≤i:=by have zt:(Pn (eqS a) i).1.Nodup:=z7.asc.imp fun h=>Nat.ne_of_lt h;have:=Ix _ (yV i) zt fun x hx=>xJ.2 (z7.lt x hx);simpa using this
 have z8:=z7.lt;repeat first|(refine r_ ?_;simp)|refine q_ ?_
 refine Qa rfl (fun zu=> ?_) (fun zv=> ?_)
 ·have zi:i<a.fin.length:=by simpa using zu
  have hw:IntKind.i64.wrap ((i:Int)+1)=i+1:=wrap_i64 _ (by omega) (by omega);have zm:=Ci (eqS a) i;have z1:=fun q' q2 H'=>ih (i+1,q',q2,H');simp only[zm]at z1;unfold K8 at z1;generalize Pn (eqS a) i=st at *
  obtain⟨fs,out⟩:=st;simp only at z1 zg zh z8 go gf;clear z7 zm;repeat first|(refine r_ ?_;simp)|refine q_ ?_
  have y3:=Qi gN;have y4:=Qi go;have y5:=Qi gf;refine Q8 rfl rfl (g0g (G++[AObj.vars [AV.i (i:Int)]]) q9 (Tr fs) 144 [.vptr N 0,.vptr G.length 0] (fun z=>eqS a i z.toNat) (Qb gf _) fs.length (by simp) (by simp;omega) (fun z hz=>by
   obtain⟨k,hk,rfl⟩:=zX.1 hz;have y6:=z8 k hk;exact Bi a ha.ok _ N M G.length i k (Qb gN _) (Qb gM _) (by simp) zr zi (by omega))) rfl ?_
  rintro _ _ ⟨rfl,rfl⟩;rw[u1t];simp;have kI:(G++[AObj.vars [AV.i (i:Int)]])[G.length]? =some (.vars [.i i]):=by simp
  have kM:(G++[AObj.vars [AV.i (i:Int)]])[M]? =some (mpN (Rn a)):=Qb gM _;have kN:(G++[AObj.vars [AV.i (i:Int)]])[N]? =some (.vars [.mref M]):=Qb gN _;have ko:(G++[AObj.vars [AV.i (i:Int)]])[qo]? =some (.arr 3 1 ((Tr out).map AV.i)):=Qb go _;have kf:(G++[AObj.vars [AV.i (i:Int)]])[q9]? =some (.arr 3 1 ((Tr fs).map AV.i)):=Qb gf _;generalize G.length=I at *;generalize G++[AObj.vars [AV.i (i:Int)]]=Y at *
  have z6:((Tr out).map AV.i).length=out.length:=by simp
  have za:((Tr fs).map AV.i).length=fs.length:=by simp
  have zn:qo≠M:=fun e=>by rw[e,kM]at ko;simp[mpN]at ko
  have zp:qo≠N:=fun e=>by rw[e,kN]at ko;simp at ko
  have zw:q9≠M:=fun e=>by rw[e,kM]at kf;simp[mpN]at kf
  have zx:q9≠N:=fun e=>by rw[e,kN]at kf;simp at kf
  have y7:q9≠I:=fun e=>by rw[e,kI]at kf;simp at kf
  have mo:∀c:Nat,(Tr (out++[c])).map AV.i=(Tr out).map AV.i++[.i c]:=fun c=>by simp
  have mf:∀c:Nat,(Tr (fs++[c])).map AV.i=(Tr fs).map AV.i++[.i c]:=fun c=>by simp
  cases hix:fs.findIdx? (eqS a i)with
  |some t=>
   rw[hix]at z1;simp only[mo]at z1;generalize (Tr out).map AV.i=ao at *
   repeat first|(refine r_ ?_;simp)|refine q_ ?_
   refine Qa rfl (fun h=>by first|(simp at h;done)|(simp at h;omega)) (fun _=> ?_);repeat first|(refine r_ ?_;simp)|refine q_ ?_
   refine Qf tOk rfl rfl T40 rfl T3 rfl (by decide) (by decide) rfl rfl rfl ?_;simp[Qb ko,Qj ko,z6];refine⟨by simp[Wk,Qb ko,Qj ko,z6]<;>omega,?_⟩;repeat first|(refine r_ ?_;simp[hw])|refine q_ ?_
   refine Qc (sl':=[(1,.vptr 0 0),(2,.nils),(3,.vptr N 0),(4,.sl (Y.length+1) 1 0 (out++[t]).length),(5,.sl q9 1 0 fs.length),(13,.i a.fin.length),(14,.i (i+1:Nat))]) ?_ (by simp);refine z1 (Y.length+1) q9 _ ⟨by omega,Qb (Qd zn kM _) _,Qb (Qd zp kN _) _,?_,Qb (Qd ze kf _) _,by have:=Qi kf;omega⟩ (by omega);rw[zL (by simp)];simp
  |none=>
   rw[hix]at z1;simp only[mo,mf]at z1;generalize (Tr out).map AV.i=ao at *;generalize (Tr fs).map AV.i=af at *
   repeat first|(refine r_ ?_;simp)|refine q_ ?_
   refine Qa rfl (fun _=> ?_) (fun h=>by first|(simp at h;done)|(simp at h;omega));repeat first|(refine r_ ?_;simp[kI])|refine q_ ?_
   refine Qf tOk rfl rfl T40 rfl T3 rfl (by decide) (by decide) rfl rfl rfl ?_;simp[Qb kf,Qj kf,za];refine⟨by simp[Wk,Qb kf,Qj kf,za]<;>omega,?_⟩;refine Wf fun Z hZ=> ?_;have zM:Z[M]? =some (mpN (Rn a)):=by rw[hZ];exact Qb (Qd zw kM _) _
   have zN:Z[N]? =some (.vars [.mref M]):=by rw[hZ];exact Qb (Qd zx kN _) _
   have zo:Z[qo]? =some (.arr 3 1 ao):=by rw[hZ];exact Qb (Qd (Ne.symm ze) ko _) _
   have zf:Z[Y.length+1]? =some (.arr 3 1 (af++[.i i])):=by rw[hZ,zL (by simp)];simp
   have zj:qo≠Y.length+1:=by have:=Qi ko;omega
   clear hZ;generalize Y.length+1=qf2 at *
   repeat first|(refine r_ ?_;simp)|refine q_ ?_
   refine Qf tOk rfl rfl T40 rfl T3 rfl (by decide) (by decide) rfl rfl rfl ?_;simp[Qb zo,Qj zo,z6];refine⟨by simp[Wk,Qb zo,Qj zo,z6]<;>omega,?_⟩;repeat first|(refine r_ ?_;simp[hw])|refine q_ ?_
   refine Qc (sl':=[(1,.vptr 0 0),(2,.nils),(3,.vptr N 0),(4,.sl (Z.length+1) 1 0 (out++[fs.length]).length),(5,.sl qf2 1 0 (fs++[i]).length),(13,.i a.fin.length),(14,.i (i+1:Nat))]) ?_ (by simp);refine z1 (Z.length+1) qf2 _ ⟨by omega,Qb (Qd zn zM _) _,Qb (Qd zp zN _) _,?_,Qb (Qd zj zf _) _,by have:=Qi zf;omega⟩ (by omega);rw[zL (by simp)];simp
 ·have zk:i=a.fin.length:=by simp at zv;omega
  subst zk;have zy:((Tr (Pn (eqS a) a.fin.length).2).map AV.i).length=(Pn (eqS a) a.fin.length).2.length:=by simp
  generalize zl:(Tr (Pn (eqS a) a.fin.length).2).map AV.i=acc at *
  repeat first|(refine r_ ?_;simp[go,zy])|refine q_ ?_
  rw[zV (by omega),←zl];simp
end Go.Abs
namespace Go.Abs
open Go Go.Proofs Go.Maps Go.RowKit
@[simp] theorem encMac_pure (a:Aut):(Em a).pure=true:=by simp[Em,Q1,Rv,Tw,AV.pure]
attribute [local irreducible] Y6 Ao Wa Ei Rv Wj Tt lkN Rn Pn clA Yr
theorem X6(a:Aut):PC Tryz.prog 28 [encA a] (fun r=>r= .tup [LI (v1x a).1,.i (v1x a).2]):=by
 refine Ql tOk Tryz.func28 rfl Tryz.results28 rfl (by simp[Tryz.ntmps28]) ?_;rw[Tryz.ntmps28];simp only[Qg];simp only[encA];obtain⟨R,hR⟩:∃R,v1x a=R:=⟨_,rfl⟩
 rw[hR];unfold v1x at hR;repeat first|(refine r_ ?_;simp)|refine q_ ?_
 refine Qe rfl rfl (by simp) (q0u a) rfl ?_;rintro _ rfl;simp;repeat first|(refine r_ ?_;simp)|refine q_ ?_
 refine Qa rfl (fun h=> ?_) (fun h=> ?_)
 ·rw[if_pos (by simpa using h)]at hR;rw[←hR];repeat first|(refine r_ ?_;simp)|refine q_ ?_
 have h0:Y6 a=0:=by simpa using h
 have ha:=(q0k a).1 h0;rw[if_neg (fun k=>k h0)]at hR;rw[←hR];repeat first|(refine r_ ?_;simp)|refine q_ ?_
 refine Qe rfl rfl (by simp) (R9 a ha.ok) rfl ?_;rintro _ rfl;simp;refine Qe rfl rfl (by simp) (F9 a ha) rfl ?_;rintro _ rfl;simp;repeat first|(refine r_ ?_;simp)|refine q_ ?_
theorem q1z(a:Aut)(p:Int):(decide (0≤p) && decide (p<a.fin.length))=decide (inS a p):=by rw[wO,decide_eq_true_eq,Bool.and_eq_true,decide_eq_true_eq,decide_eq_true_eq];exact Iff.rfl
theorem I8(a:Aut)(i:Int){b:Bool}(hb:decide (inS a i)=b):PC Tryz.prog 88 [encA a,.i i] (fun r=>r= .bool b):=by have:=u0a a i;rw[q1z,hb]at this;exact this
theorem Ii(a:Aut)(p q:Int):PC Tryz.prog 30 [encA a,.i p,.i q] (fun r=>r=u1p (v1e a p q)):=by
 refine Ql tOk Tryz.func30 rfl Tryz.results30 rfl (by simp[Tryz.ntmps30]) ?_;rw[Tryz.ntmps30];simp only[Qg];simp only[encA];obtain⟨R,hR⟩:∃R,v1e a p q=R:=⟨_,rfl⟩
 rw[hR];unfold v1e at hR;repeat first|(refine r_ ?_;simp)|refine q_ ?_
 refine Qe rfl rfl (by simp) (q0u a) rfl ?_;rintro _ rfl;simp;repeat first|(refine r_ ?_;simp)|refine q_ ?_
 refine Qa rfl (fun h=> ?_) (fun h=> ?_)
 ·rw[if_pos (by simpa using h)]at hR;rw[←hR];repeat first|(refine r_ ?_;simp)|refine q_ ?_
  rfl
 have h0:Y6 a=0:=by simpa using h
 have ha:=(q0k a).1 h0;rw[if_neg (fun k=>k h0)]at hR;repeat first|(refine r_ ?_;simp)|refine q_ ?_
 by_cases hp:inS a p
 ·have e1:decide (inS a p)=true:=by simpa using hp
  refine Qe rfl rfl (by simp) (I8 a p e1) rfl ?_;rintro _ rfl;simp;by_cases hq:inS a q
  ·rw[if_pos ⟨hp,hq⟩]at hR;have e2:decide (inS a q)=true:=by simpa using hq
   refine Qe rfl rfl (by simp) (I8 a q e2) rfl ?_;rintro _ rfl;simp;refine Qm rfl ?_;repeat first|(refine r_ ?_;simp)|refine q_ ?_
   refine Qe rfl rfl (by simp) (R9 a ha.ok) rfl ?_;rintro _ rfl;simp[Em,Q1];repeat first|(refine r_ ?_;simp)|refine q_ ?_
   have z1:=j00 ha hp hq;rw[z1]at hR;refine Q8 rfl rfl (S6 a ha.ok _) rfl ?_;rintro _ Y ⟨M,rfl,za,z6,z7,hk⟩;have z8:=j1b a ha.ok Y M (Rn a) z6 z7 p q hp hq;have y2:Y[1]? =some (.vars (Q1 a)):=hk 1 (by simp);simp only[Q1]at y2;clear hk z1;simp;repeat first|(refine r_ ?_;simp)|refine q_ ?_
   refine Yj rfl rfl rfl rfl (s:=(p,q)) rfl (near:=Rn a) z6 z7.nk (Dk ha.ok ha.ok ⟨hp,hq⟩) ?_;simp;cases hlk:lkN (Rn a) (p,q)with
   |none=>
    rw[hlk]at hR;rw[←hR];repeat first|(refine r_ ?_;simp)|refine q_ ?_
    refine Qm rfl ?_;repeat first|(refine r_ ?_;simp)|refine q_ ?_
    rfl
   |some d=>
    rw[hlk]at hR z8;rw[←hR];repeat first|(refine r_ ?_;simp)|refine q_ ?_
    refine Qm rfl ?_;repeat first|(refine r_ ?_;simp[y2])|refine q_ ?_
    refine Q8 rfl rfl z8 rfl ?_;rintro _ X ⟨rfl,_⟩;simp;repeat first|(refine r_ ?_;simp)|refine q_ ?_
    rfl
  ·rw[if_neg (fun k=>hq k.2)]at hR;rw[←hR];have e2:decide (inS a q)=false:=by simpa using hq
   refine Qe rfl rfl (by simp) (I8 a q e2) rfl ?_;rintro _ rfl;simp;refine Qm rfl ?_;repeat first|(refine r_ ?_;simp)|refine q_ ?_
   rfl
 ·rw[if_neg (fun k=>hp k.1)]at hR;rw[←hR];have e1:decide (inS a p)=false:=by simpa using hp
  refine Qe rfl rfl (by simp) (I8 a p e1) rfl ?_;rintro _ rfl;simp;refine Q4 rfl rfl ?_;simp;refine Qm rfl ?_;repeat first|(refine r_ ?_;simp)|refine q_ ?_
  rfl
end Go.Abs
namespace Go.Abs
open Go Go.Proofs Go.Maps Go.RowKit
theorem g0s{a b:List Int}{j:Nat}(h1:j<a.length)(h2:j<b.length)(h:a.take j=b.take j)(e:a[j]=b[j]):a.take (j+1)=b.take (j+1):=by rw[zY h1,zY h2,h,e]
theorem Xe(a b:List Int):PC Tryz.prog 32 [LI a,LI b] (fun r=>r= .bool (decide (a=b))):=by
 refine Ql tOk Tryz.func32 rfl Tryz.results32 rfl (by simp[Tryz.ntmps32]) ?_;rw[Tryz.ntmps32];simp only[Qg];refine Yo 0 rfl (fun hlen=> ?_);rw[yO]at hlen;repeat first|(refine r_ ?_;simp)|refine q_ ?_
 refine Qa rfl (fun h=> ?_) (fun h1=> ?_)
 ·repeat first|(refine r_ ?_;simp)|refine q_ ?_
  rintro rfl;simp at h
 have hl:a.length=b.length:=by simp at h1;omega
 repeat first|(refine r_ ?_;simp)|refine q_ ?_
 refine Qu a.length (fun j=>a.take j=b.take j) (fun j=>[(0,LI a),(1,LI b),(12,.i a.length),(13,.i j)]) (fun _=>[]) rfl (by simp) (by simp) (by simp) (by simp) (by simp) ?_;intro j hj hI ih;repeat first|(refine r_ ?_;simp)|refine q_ ?_
 refine Qa rfl (fun z8=> ?_) (fun za=> ?_)
 ·have z1:j<a.length:=by simpa using z8
  have z6:j<b.length:=by omega
  repeat first|(refine r_ ?_;simp)|refine q_ ?_
  refine Qk tOk mixed [] (.val 0 (.val 1 (.val 2 (.val 3 (.val 4 (.val 5 (.val 6 (.val 7 (.val 8 (.done)))))))))) rfl (by kernel_rfl) ?_;simp[z1,z6];refine Qa rfl (fun h=> ?_) (fun h=> ?_)
  ·repeat first|(refine r_ ?_;simp)|refine q_ ?_
   rintro rfl;simp at h
  ·repeat first|(refine r_ ?_;simp)|refine q_ ?_
   have he:a[j]=b[j]:=by simpa using h
   refine Qs _ (ih z1 (g0s z1 z6 hI he)) rfl (by simp) ?_ (by simp) (by simp);simp;exact wrap_i64 _ (by omega) (by omega)
 ·have z7:j=a.length:=by simp at za;omega
  subst z7;repeat first|(refine r_ ?_;simp)|refine q_ ?_
  rw[zV (zW _),zV (by omega)]at hI;exact hI
attribute [local irreducible] w23 c0p x17
end Go.Abs
namespace Go.Abs
open Go Go.Proofs Go.Maps Go.RowKit
theorem Ax(lo hi:Int):PC Tryz.prog 79 [.i lo,.i hi] (fun r=>r=encP (Jc lo hi)):=by
 refine Ql tOk Tryz.func79 rfl Tryz.results79 rfl (by simp[Tryz.ntmps79]) ?_;rw[Tryz.ntmps79];simp only[Qg];refine O7 (Uo tOk rfl ?_);simp;refine O7 (Uo tOk rfl ?_);simp;refine Ui 1 (e:=187) (c:=2) (xs:=[encIv ⟨lo,hi⟩]) rfl 2 (o0:= .va 171 1 [.sl 1 2 0 1]) rfl (by decide) rfl ?_;simp[AObj.fz,AV.fz];refine I7 2 rfl (by simp[AV.cells,AV.pure]) ?_;simp;refine We 2 (e:=171) (c:=1) (xs:=[encL [⟨lo,hi⟩]]) rfl 0 rfl ?_;simp;repeat first|(refine r_ ?_;simp)|refine q_ ?_
 rfl
def exM(b:Bool):Aut:=⟨1,[false,true,b],[⟨0,1,Jc (-1099511627776) 4⟩,⟨0,2,Jc 5 1099511627776⟩,⟨1,2,Jc (-1099511627776) 1099511627776⟩,⟨2,1,Jc (-1099511627776) 1099511627776⟩]⟩
def x0d:Aut:=⟨1,[false,true],[⟨0,1,Jc (-1099511627776) 1099511627776⟩,⟨1,1,Jc (-1099511627776) 1099511627776⟩]⟩
theorem w2y(b:Bool):Y6 (exM b)=0:=by cases b<;>decide+kernel
theorem x2d:clA (exM true)=[0,1,1]:=by decide+kernel
theorem y1h:E2 (exM true)=x0d:=by kernel_rfl
theorem w29:(Ao (exM true) (exM true) 0 1).1=some []:=by kernel_rfl
theorem z2q:(Ao (exM false) (exM false) 0 2).1=some [⟨0,5⟩]:=by kernel_rfl
theorem y23:Bz x0d=false:=by decide+kernel
theorem g1k:Rp (exM true) (Wx (exM true))=[]:=List.isEmpty_iff.1 (by decide+kernel)
theorem q2t:P2 (exM true)=(0,exM true):=by rw[P2,g1k];rfl
def xC:List Prd:=[[[⟨-1099511627776,4⟩]],[[⟨5,1099511627776⟩]]]
def xQ:List (List Int):=[[0],[1],[2]]
theorem v07:(f0a (exM true).types (onA (exM true))).1=0∧(f0a (exM true).types (onA (exM true))).2=xC:=by decide+kernel
theorem z2j:R3 (exM true).types (onA (exM true))=(0,xC):=by rw[←j04];exact ta v07.1 v07.2
theorem g0n:Zq (exM true) xC=some xQ:=by decide+kernel
theorem y2e:Wg (exM true)=0:=by decide+kernel
theorem q2k:Oo (exM true)=(0,xC,xQ):=by
 rw[Oo,if_neg (fun k=>k y2e),z2j];rw[if_neg (by simp)];split
 ·rename_i h;have h2:Zq (exM true) xC=none:=h;rw[g0n]at h2;cases h2
 ·rename_i Q h;have h2:Zq (exM true) xC=some Q:=h;rw[g0n]at h2;rw[←Option.some.inj h2]
theorem j1g:Y1 (exM true) xC xQ=exM true:=by kernel_rfl
theorem q2h:Mf (exM true)=false:=by decide+kernel
theorem f1i:Tk (exM true)=(0,exM true):=by rw[Tk,q2k,if_neg (by simp)];show Z5 (Y1 (exM true) xC xQ)=_;rw[j1g,q0g,q2h];rfl
theorem q2f:w0v (exM true)=(0,x0d):=by rw[w0v,f1i,if_neg (by simp)];simp only[q2t];rw[if_neg (by simp),y1h,y23];rfl
theorem d1w:v1x (exM true)=([0,1,1],0):=by rw[v1x,if_neg (fun k=>k (w2y true)),x2d];rfl
theorem q1w(b:Bool)(i:Int)(h:0≤i∧i<3):inS (exM b) i:=⟨h.1,by simpa[exM]using h.2⟩
theorem y2d:v1e (exM true) 0 1=(some [],0):=by rw[v1e,if_neg (fun k=>k (w2y true)),if_pos ⟨q1w _ _ (by decide),q1w _ _ (by decide)⟩,w29]
theorem z2t:v1e (exM false) 0 2=(some [⟨0,5⟩],0):=by rw[v1e,if_neg (fun k=>k (w2y false)),if_pos ⟨q1w _ _ (by decide),q1w _ _ (by decide)⟩,z2q]
theorem Uv(b:Bool):PC Tryz.prog 78 [.bool b] (fun r=>r=encA (exM b)):=by
 refine Ql tOk Tryz.func78 rfl Tryz.results78 rfl (by simp[Tryz.ntmps78]) ?_;rw[Tryz.ntmps78];simp only[Qg];have z1:yV 3=[0,1,2]:=rfl;have z6:yV 4=[0,1,2,3]:=rfl;repeat first|(refine r_ ?_;simp[z1,z6])|refine q_ ?_
 refine Qe rfl rfl (by simp) (Ax (-1099511627776) 4) rfl ?_;rintro _ rfl;simp[z1,z6];refine Qe rfl rfl (by simp) (Ax 5 1099511627776) rfl ?_;rintro _ rfl;simp[z1,z6];refine Qe rfl rfl (by simp) (Ax (-1099511627776) 1099511627776) rfl ?_;rintro _ rfl;simp[z1,z6];refine Qe rfl rfl (by simp) (Ax (-1099511627776) 1099511627776) rfl ?_;rintro _ rfl;simp[z1,z6];repeat first|(refine r_ ?_;simp[z1,z6])|refine q_ ?_
 exact⟨rfl,rfl,rfl⟩
end Go.Abs
namespace Go.Abs
open Go Go.Proofs Go.Maps Go.RowKit
theorem f1n(a b a' b':Int):eqA T 9 53 (.agg [.int .i64 a,.int .i64 b]) (.agg [.int .i64 a',.int .i64 b'])=some (a==a' && b==b'):=by simp[eqA,Ye,Hc,TI.agg]
theorem v18{a b:List Sy}{j:Nat}(h1:j<a.length)(h2:j<b.length)(h:a.take j=b.take j)(e:a[j]=b[j]):a.take (j+1)=b.take (j+1):=by rw[zY h1,zY h2,h,e]
theorem v0b(a b:List Sy):PC Tryz.prog 33 [LSy a,LSy b] (fun r=>r= .bool (decide (a=b))):=by
 refine Ql tOk Tryz.func33 rfl Tryz.results33 rfl (by simp[Tryz.ntmps33]) ?_;rw[Tryz.ntmps33];simp only[Qg];refine Yo 0 rfl (fun hlen=> ?_);rw[yO]at hlen;repeat first|(refine r_ ?_;simp)|refine q_ ?_
 refine Qa rfl (fun h=> ?_) (fun h1=> ?_)
 ·repeat first|(refine r_ ?_;simp)|refine q_ ?_
  rintro rfl;simp at h
 have hl:a.length=b.length:=by simp at h1;omega
 repeat first|(refine r_ ?_;simp)|refine q_ ?_
 refine Qu a.length (fun j=>a.take j=b.take j) (fun j=>[(0,LSy a),(1,LSy b),(12,.i a.length),(13,.i j)]) (fun _=>[]) rfl (by simp) (by simp) (by simp) (by simp) (by simp) ?_;intro j hj hI ih;repeat first|(refine r_ ?_;simp)|refine q_ ?_
 refine Qa rfl (fun z8=> ?_) (fun za=> ?_)
 ·have z1:j<a.length:=by simpa using z8
  have z6:j<b.length:=by omega
  repeat first|(refine r_ ?_;simp)|refine q_ ?_
  refine Qk tOk mixed [] (.val 0 (.val 1 (.val 2 (.val 3 (.val 4 (.val 5 (.val 6 (.val 7 (.val 8 (.done)))))))))) rfl (by kernel_rfl) ?_;simp[z1,z6,f1n];refine Qa rfl (fun h=> ?_) (fun h=> ?_)
  ·repeat first|(refine r_ ?_;simp)|refine q_ ?_
   rintro rfl;simp at h
  ·repeat first|(refine r_ ?_;simp)|refine q_ ?_
   have he:a[j]=b[j]:=by
    have h2:a[j].ty=b[j].ty∧a[j].num=b[j].num:=by simpa using h
    cases ha:a[j];cases hb:b[j];rw[ha,hb]at h2;simp only at h2;rw[h2.1,h2.2]
   refine Qs _ (ih z1 (v18 z1 z6 hI he)) rfl (by simp) ?_ (by simp) (by simp);simp;exact wrap_i64 _ (by omega) (by omega)
 ·have z7:j=a.length:=by simp at za;omega
  subst z7;repeat first|(refine r_ ?_;simp)|refine q_ ?_
  rw[zV (zW _),zV (by omega)]at hI;exact hI
end Go.Abs
namespace Go.Abs
open Go Go.Proofs Go.RowKit Go.Shelf Go.Lib Go.Sort
abbrev BIv:={ x:Iv // U5 x }
instance:Inhabited BIv:=⟨⟨⟨0,0⟩,by unfold U5 inB;decide⟩⟩
def w1s(x:BIv):List Value:=Jj x.1
def g1p(x y:BIv):Int:=x.1.lo - y.1.lo
theorem N7(x y:BIv)(W:World):Calls Tryz.prog 195 #[.agg #[.int .i64 x.1.lo,.int .i64 x.1.hi],.agg #[.int .i64 y.1.lo,.int .i64 y.1.hi]] W fun e w'=>e= .returned (.int .i64 (g1p x y))∧∃q os',w'=grow (W.drewN q) os':=by
 have h1:=(W7 _).1 x.2.1;have h2:=(W7 _).1 y.2.1;have hw:IntKind.i64.wrap (x.1.lo - y.1.lo)=g1p x y:=wrap_i64 _ (by omega) (by omega)
 go_enter Tryz.func195,Tryz.ntmps195
 go_wp2
 go_ret
 exact⟨rfl,0,_,by rw[alloc_eq_grow,alloc_eq_grow,grow_grow];rfl⟩
theorem q1c(x y:BIv):ltOf g1p x y=decide (x.1.lo<y.1.lo):=by unfold ltOf g1p;rw[wO];simp;omega
theorem c12:SWO (ltOf g1p) where
 irrefl x:=by rw[q1c];simp
 trans x y z h1 h2:=by rw[q1c]at *;simp at *;omega
 ntrans x y z h1 h2:=by rw[q1c]at *;simp at *;omega
theorem y2m(l:List BIv):RowOf 2 ((l.map (·.1)).map encIv) (flatK w1s 2 l.toArray) where
 size:=by simp
 width x hx:=by obtain⟨y,_,rfl⟩:=zX.1 hx;rfl
 cell i x hx j y hy:=by
  rw[yI,yI]at hx;obtain⟨z0,z1,rfl⟩:=zZ.1 hx;obtain⟨z,hz,rfl⟩:=zZ.1 z1;obtain⟨hi,rfl⟩:=zE.1 hz;have hj:j<2:=(zE.1 hy).1;rw[get_flatK _ _ _ _ (by simp;omega)];rw[show(i * 2+j) / 2=i by omega,show(i * 2+j) % 2=j by omega];rw[getElem!_pos l.toArray i (by simpa using hi)]
  match j,hj with
  |0,_=>simp[encIv,AV.cells]at hy;subst hy;rfl
  |1,_=>simp[encIv,AV.cells]at hy;subst hy;rfl
theorem u0y(H:List AObj)(p:Nat)(l:List BIv)(hp:H[p]? =some (.arr 187 2 ((l.map (·.1)).map encIv)))(hl:l.length≤1000000):
  FC Tryz.prog 179 [.sl p 2 0 l.length,.fn (.func 195) [] []] H
   (fun r H'=>r= .tup []∧∃l':List BIv,l'.Perm l∧Z3 (l'.map (·.1))∧H'=H.set p (.arr 187 2 ((l'.map (·.1)).map encIv))):=by
 refine(f0n (xs:=(l.map (·.1)).map encIv) (T7 Tryz.func179 rfl rfl) (by simp) hp (y2m l) [.func (.func 195) #[] #[]] (fun w I m vs a b=>Me _ w I m _ vs a b) (fun z1=>∃l':List BIv,l'.Perm l∧Z3 (l'.map (·.1))∧z1=(l'.map (·.1)).map encIv) ?_ ?_).mono ?_
 ·intro b cap w hH hb hc;have eg:∀args w,(callFunc 195 args).run Tryz.prog w= .ok (.enter 195 args) w:=enters_of Tryz.func195 (by kernel_rfl) rfl;have:=AnyQ.slices_SortFunc Tryz.sortIv 2 Tryz.isAgg187 Tryz.sizeOf187 w1s (fun _=>rfl) (fun x v hv=>by simp[w1s,Jj]at hv;rcases hv with rfl|rfl<;>rfl) g1p c12 195 #[] b 0 cap l.toArray w eg (fun _ _ _ _ x y=>N7 x y _) hH hb (by simp;omega);change Calls Tryz.prog 179 _ _ _ at this;rw[show(l.toArray).size=l.length by simp]at this;refine Calls.mono (this) ?_;rintro e w' ⟨rfl,d',n,os,h1,h2,rfl⟩;obtain⟨s1,_,s3⟩:=h1;have hs:d'.toList.length=l.length:=by simpa using s1
  refine⟨rfl,(d'.toList.map (·.1)).map encIv,flatK w1s 2 d',n,os,⟨d'.toList,?_,?_,rfl⟩,by simp[hs],by simpa using y2m d'.toList,rfl⟩
  ·rw[show d'.extract 0 l.length=d' by simp[←hs],show l.toArray.extract 0 l.length=l.toArray by simp]at s3;simpa using s3
  ·refine wU.2 (yU.2 fun i j hi hj z6=> ?_);have:=h2 i j (wD _) z6 (by omega);rw[q1c,getElem!_pos d' i (by simpa using hi),getElem!_pos d' j (by simpa using hj)]at this;simpa using this
 ·rintro h;have z7:l=[]:=by
   cases l with
   |nil=>rfl
   |cons x r=>simp at h
  subst z7;exact⟨⟨[],.refl _,.nil,rfl⟩,fun w=>AnyF.slices_SortFunc_none Tryz.sortIv none 0 _ w⟩
 ·rintro r H' ⟨rfl,z1,⟨l',h1,h2,rfl⟩,rfl⟩;exact⟨rfl,l',h1,h2,rfl⟩
theorem z1h(H:List AObj)(p:Nat)(l:List Iv)(hp:H[p]? =some (.arr 187 2 (l.map encIv)))(hl:l.length≤1000000)(z1:∀y∈l,U5 y):
  FC Tryz.prog 179 [.sl p 2 0 l.length,.fn (.func 195) [] []] H
   (fun r H'=>r= .tup []∧∃l':List Iv,l'.Perm l∧Z3 l'∧H'=H.set p (.arr 187 2 (l'.map encIv))):=by
 have hb:(l.attach.map fun x=>(⟨x.1,z1 x.1 x.2⟩:BIv)).map (·.1)=l:=by simp
 have:=u0y H p (l.attach.map fun x=>(⟨x.1,z1 x.1 x.2⟩:BIv)) (by rw[hb];exact hp) (by simpa using hl);rw[show(l.attach.map fun x=>(⟨x.1,z1 x.1 x.2⟩:BIv)).length=l.length by simp]at this;refine this.mono ?_;rintro r H' ⟨rfl,l',h1,h2,rfl⟩;refine⟨rfl,l'.map (·.1),?_,h2,rfl⟩;have:=h1.map (·.1)
 rwa [hb]at this
end Go.Abs
namespace Go.Abs
open Go Go.Proofs Go.Maps Go.RowKit
attribute [local irreducible] W2 Qy Ej Qx Ud D7
theorem Xv(T:Nat)(l:List Prd)(hT:T≤16)(hl:∀p∈l,PWf T p)(hn:∀i,i<T→(Qx l i).length≤1000000)(yf:l.length≤1000000):PC Tryz.prog 161 [.i T,LP l] (fun r=>r=encP (Ud T l)):=by
 refine Ql tOk Tryz.func161 rfl Tryz.results161 rfl (by simp[Tryz.ntmps161]) ?_;rw[Tryz.ntmps161];simp only[Qg];simp only[encP];repeat first|(refine r_ ?_;simp)|refine q_ ?_
 refine El tOk rfl rfl rfl T74 rfl U6 rfl rfl rfl (n:=T) (by simp;omega) (by unfold maxLen;omega) .nils rfl ?_;simp;repeat first|(refine r_ ?_;simp)|refine q_ ?_
 rw[Vk (fun k=>Ej (Qx l k))];refine Qo (Qc (sl':=[(0,.i T),(1,LP l),(4,.vptr 0 0),(5,.vptr 2 0),(17,.i T),(18,.i (0:Nat))]) ?_ (by simp));refine Qp (P:=Tryz.prog) (F:=fun(u:Nat×List AObj)=>⟨[(0,.i T),(1,LP l),(4,.vptr 0 0),(5,.vptr 2 0),(17,.i T),(18,.i u.1)],u.2⟩)
  (fun u=>u.1≤T∧3≤u.2.length∧u.2[0]? =some (.vars [.nils])∧u.2[1]? =some (.arr 171 1 (D7 (fun k=>Ej (Qx l k)) T u.1))∧u.2[2]? =some (.vars [.sl 1 1 0 T])) (fun u=>T - u.1) ?_ (0,_) ⟨by simp,by simp,rfl,rfl,rfl⟩
 rintro⟨i,H2⟩ ⟨hi,hH,g0,g1,g2⟩ ih;simp only at hi hH g0 g1 g2 ih ⊢;repeat first|(refine r_ ?_;simp)|refine q_ ?_
 refine Qa rfl (fun y4=> ?_) (fun y5=> ?_)
 ·have z7:i<T:=by simpa using y4
  have hw:IntKind.i64.wrap ((i:Int)+1)=i+1:=wrap_i64 _ (by omega) (by omega);have zd:=Ms (fun k=>Ej (Qx l k)) z7;have zr:=q0p (fun k=>Ej (Qx l k)) z7;have y6:=w0d (fun k=>Ej (Qx l k)) T i;have zi:=hn i z7;have zt:=fun H'=>ih (i+1,H');simp only[←zd]at zt;clear zd;generalize D7 (fun k=>Ej (Qx l k)) T i=row at *
  repeat first|(refine r_ ?_;simp)|refine q_ ?_
  refine Qw (sl':=[(0,.i T),(1,LP l),(4,.vptr 0 0),(5,.vptr 2 0),(6,.i i),(7,.nils),(17,.i T),(18,.i i),(21,LP l),(22,.i l.length),(23,.i (0:Nat))]) ?_ (by simp);refine Q6 7 187 2 rfl ?_;simp;have zh:=SL.start H2 187 2;refine Qo (Qc (sl':=[(0,.i T),(1,LP l),(4,.vptr 0 0),(5,.vptr 2 0),(6,.i i),(7,.sl H2.length 2 0 (Qx (l.take 0) i).length),(17,.i T),(18,.i i),(21,LP l),(22,.i l.length),(23,.i (0:Nat))]) ?_ (by simp[Y9]));refine Qp (P:=Tryz.prog) (F:=fun(u:Nat×Nat×List AObj)=>⟨[(0,.i T),(1,LP l),(4,.vptr 0 0),(5,.vptr 2 0),(6,.i i),(7,.sl u.2.1 2 0 (Qx (l.take u.1) i).length),(17,.i T),(18,.i i),(21,LP l),(22,.i l.length),(23,.i u.1)],u.2.2⟩)
   (fun u=>u.1≤l.length∧SL H2 u.2.2 u.2.1 187 2 ((Qx (l.take u.1) i).map encIv)) (fun u=>l.length - u.1) ?_ (0,H2.length,_) ⟨wD _,by rw[wM,Y9];exact zh⟩
  rintro⟨j,q,G⟩ ⟨hj,g⟩ ih2;simp only at hj g ih2 ⊢;repeat first|(refine r_ ?_;simp)|refine q_ ?_
  refine Qa rfl (fun za=> ?_) (fun zb=> ?_)
  ·have z1:j<l.length:=by simpa using za
   have ze:IntKind.i64.wrap ((j:Int)+1)=j+1:=wrap_i64 _ (by omega) (by omega);have hp:=hl _ (zT z1);have zj:i<l[j].length:=by rw[hp.1];exact z7
   have zc:=Pj z1 zj;have zk:(Qx (l.take (j+1)) i).length≤1000000:=by refine yW ?_ zi;unfold Qx;rw[←xY (j+1) l,ww,yL,xY];omega
   rw[zc,yL]at zk;have z6:=fun q' G'=>ih2 (j+1,q',G');simp only[zc]at z6;clear zc;have zu:(wV encP l)[j]? =some (encP l[j]):=by simp[z1]
   have zv:∀hh,(wV encP l)[j]'hh=encP l[j]:=fun hh=>by simp
   generalize l[j]=pj at *
   have y7:(pj.map encL)[i]? =some (encL pj[i]):=by simp[zj]
   have y8:∀hh,(pj.map encL)[i]'hh=encL pj[i]:=fun hh=>by simp
   generalize pj[i]=s at *;generalize Qx (l.take j) i=acc at *
   have zw:(acc.map encIv).length=acc.length:=by simp
   simp only[encP]at zu zv;repeat first|(refine r_ ?_;simp[zu,zv,z1,zj,y7,y8])|refine q_ ?_
   have g2:=g.add [.vars [.list (pj.map encL)]];generalize G++[AObj.vars [.list (pj.map encL)]]=Y at *;generalize zl:acc.map encIv=ac at *;refine Qf tOk rfl rfl U6 rfl A7 rfl (by decide) (by decide) rfl rfl rfl ?_
   simp[Qb g2.arr,Qj g2.arr,g2.arr,zw];refine⟨⟨fun y hy=> ?_,by simp[zw];omega⟩,?_⟩
   ·obtain⟨x,_,rfl⟩:=zX.1 hy;exact⟨rfl,rfl⟩
   repeat first|(refine r_ ?_;simp[ze])|refine q_ ?_
   refine Qc (sl':=[(0,.i T),(1,LP l),(4,.vptr 0 0),(5,.vptr 2 0),(6,.i i),(7,.sl Y.length 2 0 (acc++s).length),(17,.i T),(18,.i i),(21,LP l),(22,.i l.length),(23,.i (j+1:Nat))]) ?_ (by simp);refine z6 Y.length _ ⟨by omega,?_⟩ (by omega);rw[yX,zl];exact g2.put [] (ac++s.map encIv) (by simp)
  ·have z8:j=l.length:=by simp at zb;omega
   subst z8;rw[xB]at g ⊢;have zm:∀y∈Qx l i,U5 y∧y.lo≤y.hi:=fun y hy=>C7 hl hy;generalize yg:Qx l i=L at *
   have zn:=g.ge;repeat first|(refine r_ ?_;simp)|refine q_ ?_
   refine Q8 rfl rfl (z1h G q L g.arr zi (fun y hy=>(zm y hy).1)) rfl ?_;rintro r H' ⟨rfl,l',h1,h2,rfl⟩;simp;have hl':l'.length≤1000000:=by rw[h1.length_eq];exact zi
   have y9:=h1.length_eq;have zo:∀y∈l',U5 y:=fun y hy=>(zm y (h1.mem_iff.1 hy)).1;have zf:=De L l' (fun y hy=>(zm y hy).2) h1 h2;rw[←y9];have gq:=Qh g.arr (.arr 187 2 (l'.map encIv));have gk:∀j,j<H2.length→(G.set q (.arr 187 2 (l'.map encIv)))[j]? =H2[j]? :=fun j hj=>by rw[zH (by omega)];exact g.keep j hj
   generalize G.set q (.arr 187 2 (l'.map encIv))=G1 at *
   repeat first|(refine r_ ?_;simp)|refine q_ ?_
   refine Qw (sl':=[(0,.i T),(1,LP l),(4,.vptr 0 0),(5,.vptr 2 0),(6,.i i),(10,.nils),(17,.i T),(18,.i i),(37,.sl q 2 0 l'.length),(38,.i l'.length),(39,.i (0:Nat))]) ?_ (by simp);refine Wl q gq ?_;simp[AV.fz];rw[zV (by simp)];have ya:∀j,j<H2.length→(G1.set q .dead)[j]? =H2[j]? :=fun j hj=>by rw[zH (by omega)];exact gk j hj
   have yh:H2.length≤(G1.set q .dead).length:=by have:=Qi gq;simp;omega
   generalize G1.set q .dead=K at *;refine Q6 10 187 2 rfl ?_
   simp;have zh:=SL.start K 187 2;refine Qo (Qc (sl':=[(0,.i T),(1,LP l),(4,.vptr 0 0),(5,.vptr 2 0),(6,.i i),(10,.sl K.length 2 0 (Qy [] (l'.take 0)).length),(17,.i T),(18,.i i),(37,LIv l'),(38,.i l'.length),(39,.i (0:Nat))]) ?_ (by simp[Qy]));refine Qp (P:=Tryz.prog) (F:=fun(u:Nat×Nat×List AObj)=>⟨[(0,.i T),(1,LP l),(4,.vptr 0 0),(5,.vptr 2 0),(6,.i i),(10,.sl u.2.1 2 0 (Qy [] (l'.take u.1)).length),(17,.i T),(18,.i i),(37,LIv l'),(38,.i l'.length),(39,.i u.1)],u.2.2⟩)
    (fun u=>u.1≤l'.length∧SL K u.2.2 u.2.1 187 2 ((Qy [] (l'.take u.1)).map encIv)) (fun u=>l'.length - u.1) ?_ (0,K.length,_) ⟨wD _,by rw[wM,Qy,List.foldl_nil];exact zh⟩
   clear g gq gk ih2 zh zn;clear G G1 q;rintro⟨j,p,G⟩ ⟨hj,g⟩ ih2;simp only at hj g ih2 ⊢;repeat first|(refine r_ ?_;simp)|refine q_ ?_
   refine Qa rfl (fun za=> ?_) (fun zb=> ?_)
   ·have z1:j<l'.length:=by simpa using za
    have ze:IntKind.i64.wrap ((j:Int)+1)=j+1:=wrap_i64 _ (by omega) (by omega);have zd:Qy [] (l'.take (j+1))=W2 (Qy [] (l'.take j)) l'[j]:=by rw[zY z1,Uj]
    have zx:(Qy [] (l'.take j)).length≤j:=yW (Rc _ _) (by simp;omega);have zp:∀y∈Qy [] (l'.take j),U5 y:=Iq _ _ (by simp) (fun y hy=>zo y (xV hy));have z6:=fun p' G'=>ih2 (j+1,p',G');simp only[zd]at z6;clear zd;generalize Qy [] (l'.take j)=acc at *;generalize hx:l'[j]=x at *
    repeat first|(refine r_ ?_;simp[z1,hx])|refine q_ ?_
    rcases List.eq_nil_or_concat acc with rfl|⟨ini,y,rfl⟩
    ·refine Qk tOk mixed [] (.val 0 (.val 1 (.val 2 (.val 3 (.val 4 (.val 5 (.val 6 (.val 7 (.val 8 (.val 9 (.val 10 (.val 11 (.val 12 (.val 13 (.done))))))))))))))) rfl (by kernel_rfl) ?_;simp;refine Qm rfl ?_;simp;repeat first|(refine r_ ?_;simp)|refine q_ ?_
     refine Qf tOk rfl rfl U6 rfl A7 rfl (by decide) (by decide) rfl rfl rfl ?_;simp[Qb g.arr,Qj g.arr];refine⟨by simp[Wk,Qb g.arr,Qj g.arr]<;>omega,?_⟩;repeat first|(refine r_ ?_;simp[ze])|refine q_ ?_
     refine Qc (sl':=[(0,.i T),(1,LP l),(4,.vptr 0 0),(5,.vptr 2 0),(6,.i i),(10,.sl (G.length+2) 2 0 1),(17,.i T),(18,.i i),(37,LIv l'),(38,.i l'.length),(39,.i (j+1:Nat))]) ?_ (by simp);have:=z6 (G.length+2) _ ⟨by omega,by rw[W2];exact g.put [AObj.vars [AV.i x.lo,AV.i x.hi],AObj.arr 187 2 [encIv x]] _ rfl⟩ (by omega);rw[W2]at this;simpa using this
    ·have yi:=(W7 _).1 (zp y (by simp)).2;have zy:IntKind.i64.wrap (y.hi+1)=y.hi+1:=wrap_i64 _ (by omega) (by omega);have gA:=g.arr;rw[List.concat_eq_append]at g gA z6 zx ⊢;have hlen:(ini++[y]).length=ini.length+1:=by simp
     rw[hlen]at zx ⊢;have zz:IntKind.i64.wrap (ini.length:Int)=ini.length:=wrap_i64 _ (by omega) (by omega);have hg:((ini++[y]).map encIv)[ini.length]? =some (encIv y):=by simp
     have zg:(ini.length:Int)<ini.length+1:=by omega
     refine Qk tOk mixed [] (.val 0 (.val 1 (.val 2 (.val 3 (.val 4 (.val 5 (.val 6 (.val 7 (.val 8 (.val 9 (.val 10 (.val 11 (.val 12 (.val 13 (.done))))))))))))))) rfl (by kernel_rfl) ?_;simp[Qb gA,zz,hg,zy,zg];refine Qa rfl (fun h1=> ?_) (fun h1=> ?_)
     ·repeat first|(refine r_ ?_;simp)|refine q_ ?_
      refine Qk tOk mixed [14] (.val 0 (.val 1 (.val 2 (.val 3 (.val 4 (.val 5 (.val 6 (.val 7 (.val 8 (.val 9 (.val 10 (.val 11 (.val 12 (.val 13 (.one 14 (.done)))))))))))))))) rfl (by kernel_rfl) ?_;simp[Qb gA,zz,hg,zy,zg,Qj gA];repeat first|(refine r_ ?_;simp[ze])|refine q_ ?_
      have hR:W2 (ini++[y]) x=ini++[⟨y.lo,if y.hi<x.hi then x.hi else y.hi⟩]:=by rw[W5,if_pos (by simpa using h1)]
      rw[hR]at z6;refine Qc (sl':=[(0,.i T),(1,LP l),(4,.vptr 0 0),(5,.vptr 2 0),(6,.i i),(10,.sl p 2 0 (ini.length+1)),(17,.i T),(18,.i i),(37,LIv l'),(38,.i l'.length),(39,.i (j+1:Nat))]) ?_ (by simp);have:=z6 p _ ⟨by omega,g.upd [AObj.vars [AV.i x.lo,AV.i x.hi]] _⟩ (by omega);simpa using this
     ·repeat first|(refine r_ ?_;simp)|refine q_ ?_
      refine Qf tOk rfl rfl U6 rfl A7 rfl (by decide) (by decide) rfl rfl rfl ?_;simp[Qb gA,Qj gA];refine⟨by simp[Wk,Qb gA,Qj gA]<;>omega,?_⟩;repeat first|(refine r_ ?_;simp[ze])|refine q_ ?_
      have hR:W2 (ini++[y]) x=ini++[y]++[x]:=by rw[W5,if_neg (by simpa using h1)]
      rw[hR]at z6;refine Qc (sl':=[(0,.i T),(1,LP l),(4,.vptr 0 0),(5,.vptr 2 0),(6,.i i),(10,.sl (G.length+2) 2 0 (ini.length+2)),(17,.i T),(18,.i i),(37,LIv l'),(38,.i l'.length),(39,.i (j+1:Nat))]) ?_ (by simp);have:=z6 (G.length+2) _ ⟨by omega,g.put [AObj.vars [AV.i x.lo,AV.i x.hi],AObj.arr 187 2 [encIv x]] _ rfl⟩ (by omega);simpa using this
   ·have z8:j=l'.length:=by simp at zb;omega
    subst z8;rw[xB,zf]at g ⊢;refine Wl p g.arr ?_;simp[AV.fz];rw[zV (by simp)];have yj:=Qi g.arr;have yb:=g.ge;have yk:∀j,j<H2.length→(G.set p .dead)[j]? =H2[j]? :=fun j hj=>by rw[zH (by omega),g.keep j (by omega)];exact ya j hj
    have yl:3≤(G.set p .dead).length:=by simp;omega
    generalize G.set p .dead=Y at *
    have y0:=(yk 0 (by omega)).trans g0;have y1:=(yk 1 (by omega)).trans g1;have y2:=(yk 2 (by omega)).trans g2;have y1H:∀hh,Y[1]'hh= .arr 171 1 row:=fun hh=>(yJ hh).2 y1;have yc:∀hh,row[i]'hh= .nils:=fun hh=>(yJ hh).2 zr;repeat first|(refine r_ ?_;simp[y1,y2,y1H,z7,y6,zr,yc,hw])|refine q_ ?_
    refine Qc (sl':=[(0,.i T),(1,LP l),(4,.vptr 0 0),(5,.vptr 2 0),(17,.i T),(18,.i (i+1:Nat))]) ?_ (by simp);exact zt _ ⟨by omega,by simp;omega,Qd (by decide) y0 _,Qh y1 _,Qd (by decide) y2 _⟩ (by omega)
 ·have zq:i=T:=by simp at y5;omega
  subst zq;rw[Lx]at *
  have yd:(yV i).map (fun k=>Ej (Qx l k))=Ud i l:=by unfold Ud;rfl
  rw[yd]at *;refine We 1 g1 2 g2 ?_
  have y3:=q0x i l;have e0:∀Y,((H2.set 1 AObj.dead).set 2 Y)[0]? =some (AObj.vars [AV.nils]):=fun Y=>Qd (by decide) (Qd (by decide) g0 _) _;have ye:∀Y hh,((H2.set 1 AObj.dead).set 2 Y)[0]'hh=AObj.vars [AV.nils]:=fun Y hh=>by have:=e0 Y;rw[zP hh]at this;exact Option.some.inj this
  have e2:∀Y,((H2.set 1 AObj.dead).set 2 Y)[2]? =some Y:=fun Y=>Qh (Qd (by decide) g2 _) _;have e3:∀Y Z,(((H2.set 1 AObj.dead).set 2 Y).set 0 Z)[0]? =some Z:=fun Y Z=>Qh (e0 Y) _;simp[y3];rw[zV (by simp[y3])];repeat first|(refine r_ ?_;simp[e0,ye,e2,e3])|refine q_ ?_
  unfold Ud;rw[v_]
end Go.Abs
namespace Go.Abs
open Go Go.Proofs Go.Maps Go.RowKit
def L4(a:Aut)(cl:List Nat)(s:Int)(j t:Nat):List Prd:=(((Wa a s).take j).filter fun m=>decide (clD cl m=t)).map (·.on)
def Hw(ks:List Nat)(t:Nat):List Nat:=if t∈ks then ks else ks++[t]
def Jx(a:Aut)(cl:List Nat)(s:Int)(j:Nat):List Nat:=((Wa a s).take j).foldl (fun ks m=>Hw ks (clD cl m)) []
theorem q18(a:Aut)(cl:List Nat)(s:Int)(t:Nat):L4 a cl s (Wa a s).length t=Ow a cl s t:=by simp[L4,Ow]
theorem k0d(a:Aut)(cl:List Nat)(s:Int){j:Nat}(h:j<(Wa a s).length):L4 a cl s (j+1)=fun t=>if t=clD cl (Wa a s)[j]then L4 a cl s j (clD cl (Wa a s)[j])++[(Wa a s)[j].on]else L4 a cl s j t:=by
 funext t;unfold L4;rw[zY h,ui,yX,List.filter_cons,List.filter_nil];by_cases e:t=clD cl (Wa a s)[j]
 ·subst e;simp
 ·rw[if_neg e,if_neg (by simpa using fun k=>e k.symm)];simp
theorem c0h(a:Aut)(cl:List Nat)(s:Int):Jx a cl s 0=[]:=by simp[Jx]
theorem g01(a:Aut)(cl:List Nat)(s:Int){j:Nat}(h:j<(Wa a s).length):Jx a cl s (j+1)=Hw (Jx a cl s j) (clD cl (Wa a s)[j]):=by unfold Jx;rw[zY h,vA];rfl
theorem w0s{ks:List Nat}{t u:Nat}:u∈Hw ks t↔u∈ks∨u=t:=by
 unfold Hw;split
 ·rename_i h;exact⟨.inl,fun k=>k.elim id (fun e=>e▸h)⟩
 ·simp
theorem u1f{ks:List Nat}{t:Nat}(h:ks.Nodup):(Hw ks t).Nodup:=by
 unfold Hw;split
 ·exact h
 ·rename_i hn;rw[vT];refine⟨h,by simp,fun x hx y hy e=>hn ?_⟩;rw[z_]at hy;rw[←hy,←e];exact hx
theorem k0e(cl:List Nat):∀(l:List Mv) (ks:List Nat) (t:Nat),t∈l.foldl (fun ks m=>Hw ks (clD cl m)) ks↔t∈ks∨∃m∈l,clD cl m=t
 |[],ks,t=>by simp
 |m::l,ks,t=>by
  rw[x_,k0e cl l,w0s];simp only[yP];constructor
  ·rintro((h|rfl)|⟨m',h1,h2⟩)
   ·exact .inl h
   ·exact .inr ⟨m,.inl rfl,rfl⟩
   ·exact .inr ⟨m',.inr h1,h2⟩
  ·rintro(h|⟨m',rfl|h1,h2⟩)
   ·exact .inl (.inl h)
   ·exact .inl (.inr h2.symm)
   ·exact .inr ⟨m',h1,h2⟩
theorem q2o(cl:List Nat):∀(l:List Mv) (ks:List Nat),ks.Nodup→(l.foldl (fun ks m=>Hw ks (clD cl m)) ks).Nodup
 |[],_,h=>h
 |m::l,ks,h=>q2o cl l _ (u1f h)
theorem Lu{a:Aut}{cl:List Nat}{s:Int}{j t:Nat}:t∈Jx a cl s j↔∃m∈(Wa a s).take j,clD cl m=t:=by unfold Jx;rw[k0e];simp
theorem k18(a:Aut)(cl:List Nat)(s:Int)(j:Nat):(Jx a cl s j).Nodup:=q2o cl _ _ List.nodup_nil
theorem q1t{a:Aut}{cl:List Nat}{s:Int}{j t:Nat}(h:t∉Jx a cl s j):L4 a cl s j t=[]:=by unfold L4;rw[List.map_eq_nil_iff,List.filter_eq_nil_iff];intro m hm k;exact h (Lu.2 ⟨m,hm,by simpa using k⟩)
attribute [simp] q27
def kvG(ks:List Nat)(gs:Nat→List Prd)(L:Nat→Nat):List (AV×AV):=ks.map fun t:Nat=>(.i t,.sl (L t) 1 0 (gs t).length)
theorem k11{ks:List Nat}(hn:ks.Nodup){gs:Nat→List Prd}{L:Nat→Nat}{j t np:Nat}(hj:ks[j]? =some t)(p:Prd):
  kvG ks (fun u=>if u=t then gs t++[p]else gs u) (fun u=>if u=t then np else L u)=(kvG ks gs L).set j (.i t,.sl np 1 0 ((gs t).length+1)):=by
 unfold kvG;refine xW fun i=> ?_;obtain⟨z6,z1⟩:=zE.1 hj;by_cases hi:i<ks.length
 ·by_cases e:i=j
  ·subst e;rw[zU (by simpa using hi),yI,hj];simp
  ·rw[zH (Ne.symm e),yI,yI,zP hi];have:ks[i]≠t:=fun k=>e ((ua hn).1 (k.trans z1.symm));simp[this]
 ·rw[xI (by simp;omega),xI (by simp;omega)]
theorem g1h{ks:List Nat}{gs:Nat→List Prd}{L:Nat→Nat}{t np:Nat}(ht:t∉ks)(h0:gs t=[])(p:Prd):
  kvG (ks++[t]) (fun u=>if u=t then gs t++[p]else gs u) (fun u=>if u=t then np else L u)=kvG ks gs L++[(.i t,.sl np 1 0 1)]:=by
 unfold kvG;rw[yX]
 congr 1
 ·refine xZ fun u hu=> ?_;have:u≠t:=fun e=>ht (e▸hu);simp[this]
 ·simp[h0]
structure MG (K:List AObj) (M:Nat) (ks:List Nat) (gs:Nat→List Prd) (L:Nat→Nat) (H:List AObj):Prop where
 map:H[M]? =some (.mv (kvG ks gs L))
 leaf:∀t∈ks,H[L t]? =some (.arr 76 1 ((gs t).map encP))
 inj:∀t t',t∈ks→t'∈ks→L t=L t'→t=t'
 ne:∀t∈ks,L t≠M
 geM:K.length≤M
 geL:∀t∈ks,K.length≤L t
 keep:∀j,j<K.length→H[j]? =K[j]?
theorem MG.grow{K:List AObj}{M:Nat}{ks:List Nat}{gs:Nat→List Prd}{L:Nat→Nat}{H:List AObj}(h:MG K M ks gs L H)(E:List AObj):MG K M ks gs L (H++E):=by have hm:=Qi h.map;have z1:=h.geM;exact⟨Qb h.map E,fun t ht=>Qb (h.leaf t ht) E,h.inj,h.ne,h.geM,h.geL,fun j hj=>by rw[zI (by omega)];exact h.keep j hj⟩
theorem MG.put {K:List AObj} {M:Nat} {ks:List Nat} {gs:Nat→List Prd} {L:Nat→Nat} {H H':List AObj} (h:MG K M ks gs L H) {t:Nat} {p:Prd} {np:Nat} (zb:H.length≤np)
  (z8:H'[M]? =some (.mv (kvG (Hw ks t) (fun u=>if u=t then gs t++[p]else gs u) (fun u=>if u=t then np else L u)))) (z6:H'[np]? =some (.arr 76 1 ((gs t++[p]).map encP)))
  (hk:∀j,j<H.length→j≠M→(t∈ks→j≠L t)→H'[j]? =H[j]?):MG K M (Hw ks t) (fun u=>if u=t then gs t++[p]else gs u) (fun u=>if u=t then np else L u) H':=by
 have hm:=Qi h.map;have hL:=fun u hu=>Qi (h.leaf u hu);have z1:∀u,u∈Hw ks t→u≠t→u∈ks:=fun u hu za=>(w0s.1 hu).resolve_right za;refine⟨z8,fun u hu=> ?_,fun u v hu hv e=> ?_,fun u hu=> ?_,h.geM,fun u hu=> ?_,fun j hj=> ?_⟩
 ·by_cases e:u=t
  ·subst e;simpa using z6
  ·simp only[e,if_false];have z7:=z1 u hu e;rw[hk _ (hL u z7) (h.ne u z7) (fun ht k=>e (h.inj u t z7 ht k))];exact h.leaf u z7
 ·by_cases e1:u=t
  ·by_cases e2:v=t
   ·rw[e1,e2]
   ·simp only[e1,e2,if_true,if_false]at e;have:=hL v (z1 v hv e2);omega
  ·by_cases e2:v=t
   ·simp only[e1,e2,if_true,if_false]at e;have:=hL u (z1 u hu e1);omega
   ·simp only[e1,e2,if_false]at e;exact h.inj u v (z1 u hu e1) (z1 v hv e2) e
 ·by_cases e:u=t
  ·simp only[e,if_true];omega
  ·simp only[e,if_false];exact h.ne u (z1 u hu e)
 ·have:=h.geM;by_cases e:u=t
  ·simp only[e,if_true];omega
  ·simp only[e,if_false];exact h.geL u (z1 u hu e)
 ·have zc:=h.geM;rw[hk j (by omega) (by omega) (fun ht e=>by have:=h.geL t ht;omega)];exact h.keep j hj
section
variable {nt k:Nat} {S:AS} {ops:Array Oper} {o:Oper} {R:AS→Prop}
theorem d0o{ks:List Nat}(hk:∀t∈ks,t≤1000000)(gs:Nat→List Prd)(L:Nat→Nat):∀p∈kvG ks gs L,isKey Tryz.prog 3 p.1:=fun p hp=>by obtain⟨t,ht,rfl⟩:=zX.1 hp;exact Yk ⟨by omega,by have:=hk t ht;omega⟩
theorem Fl {wr:Bool} (hw:Q5 ops S o=some true) (hd:W3 nt o=true) {x ix:Operand} (ho:o.op= .lookup 241 x ix false) {id:Nat} (hx:rho S.sl x=some (.mref id)) {t:Nat} (z1:rho S.sl ix=some (.i t)) {ks:List Nat} {gs:Nat→List Prd} {L:Nat→Nat} (z6:S.hp[id]? =some (.mv (kvG ks gs L)))
  (hk:∀t∈ks,t≤1000000) (ht:t≤1000000) (hR:R (S.putD o.dst (if t∈ks then .sl (L t) 1 0 (gs t).length else .nils))):Wt Tryz.prog nt k wr ops o S R:=by
 refine Ze tOk hw hd ho q27 rfl T91 Pr hx z1 z6 (Yk ⟨by omega,by omega⟩) (d0o hk gs L) (z:= .nils) (fun w I=> .nils ..) (fun j p hp he=> ?_) (fun z7=> ?_)
 ·unfold kvG at hp;rw[yI]at hp;obtain⟨u,hu,rfl⟩:=zZ.1 hp;have z8:u=t:=by simp at he;omega
  subst z8;rw[if_pos (zO hu)]at hR;exact hR
 ·have:t∉ks:=fun h=>z7 _ (zX.2 ⟨t,h,rfl⟩) rfl;rw[if_neg this]at hR;exact hR
theorem Jf (hw:Q5 ops S o=some true) (hd:W3 nt o=true) {x ix y:Operand} (ho:o.op= .mapUpdate 241 x ix y) {id:Nat} (hx:rho S.sl x=some (.mref id)) {t:Nat} (z6:rho S.sl ix=some (.i t)) {np n:Nat} (hy:rho S.sl y=some (.sl np 1 0 n)) {ks:List Nat} {gs:Nat→List Prd} {L:Nat→Nat} (z7:S.hp[id]? =some (.mv (kvG ks gs L)))
  (hk:∀t∈ks,t≤1000000) (ht:t≤1000000) (z8:ks.Nodup) (h0:t∉ks→gs t=[]) (p:Prd) (hn:n=(gs t).length+1) (hR:R (({ S with hp:=S.hp.set id (.mv (kvG (Hw ks t) (fun u=>if u=t then gs t++[p]else gs u) (fun u=>if u=t then np else L u))) }:AS).putD o.dst (.tup []))):Wt Tryz.prog nt k true ops o S R:=by
 subst hn;refine Du tOk hw hd ho q27 rfl Pr hx z6 hy z7 (Yk ⟨by omega,by omega⟩) (d0o hk gs L) (fun j q hq he=> ?_) (fun za=> ?_)
 ·unfold kvG at hq;rw[yI]at hq;obtain⟨u,hu,rfl⟩:=zZ.1 hq;have zb:u=t:=by simp at he;omega
  subst zb;have ha:Hw ks u=ks:=by unfold Hw;rw[if_pos (zO hu)]
  rw[ha,k11 z8 hu p]at hR;exact hR
 ·have z1:t∉ks:=fun h=>za _ (zX.2 ⟨t,h,rfl⟩) rfl;have ha:Hw ks t=ks++[t]:=by unfold Hw;rw[if_neg z1]
  rw[ha,g1h z1 (h0 z1) p]at hR;rw[h0 z1];exact hR
end
end Go.Abs
namespace Go.Abs
open Go Go.Proofs Go.Maps Go.RowKit
def kvX(ks:List Nat)(gs:Nat→List Prd)(L:Nat→Nat)(k:Nat):List (AV×AV):=ks.mapIdx fun i (t:Nat)=>(.i t,if i<k then .list ((gs t).map encP)else .sl (L t) 1 0 (gs t).length)
theorem y1j(ks:List Nat)(gs:Nat→List Prd)(L:Nat→Nat):kvX ks gs L 0=kvG ks gs L:=by unfold kvX kvG;refine xW fun i=> ?_;rw[vP,yI];cases ks[i]? <;>simp
theorem k12(ks:List Nat)(gs:Nat→List Prd)(L:Nat→Nat):kvX ks gs L ks.length=ks.map fun t:Nat=>(.i t,.list ((gs t).map encP)):=by
 unfold kvX;refine xW fun i=> ?_;rw[vP,yI];by_cases h:i<ks.length
 ·rw[zP h];simp[h]
 ·rw[xI (by omega)];simp
theorem w1f{ks:List Nat}(hn:ks.Nodup){gs:Nat→List Prd}{L:Nat→Nat}(z1:∀t t',t∈ks→t'∈ks→L t=L t'→t=t'){k t:Nat}(hk:ks[k]? =some t):
  (kvX ks gs L k).map (fun p=>(p.1,p.2.fz (L t) 1 ((gs t).map encP)))=kvX ks gs L (k+1):=by
 obtain⟨z7,z6⟩:=zE.1 hk;unfold kvX;refine xW fun i=> ?_;rw[yI,vP,vP];by_cases h:i<ks.length
 ·rw[zP h];simp only[Option.map_some];by_cases e:i=k
  ·subst e;rw[z6,if_neg (by omega),if_pos (by omega),AV.fz,if_pos ⟨rfl,rfl,by simp⟩];simp[zV]
  ·by_cases h2:i<k
   ·rw[if_pos h2,if_pos (by omega)];simp[AV.fz]
   ·rw[if_neg h2,if_neg (by omega),AV.fz,if_neg];rintro⟨e2,_⟩;have:=z1 _ _ (zT h) (zO hk) e2;exact e ((ua hn).1 (this.trans z6.symm))
 ·rw[xI (by omega)];simp
section
variable {P:Program} [Env P] {nt kk:Nat} {cd:Code} {Q:Exit→AS→Prop}
theorem MG.freeze {M:Nat} {ks:List Nat} {gs:Nat→List Prd} {L:Nat→Nat} {sl:List (Nat×AV)} (hn:ks.Nodup) (z6:∀t t',t∈ks→t'∈ks→L t=L t'→t=t') (z8:∀t∈ks,L t≠M)
  (za:∀t∈ks,sl.map (fun p=>(p.1,p.2.fz (L t) 1 ((gs t).map encP)))=sl):∀(d k:Nat) (H:List AObj),k+d=ks.length→H[M]? =some (.mv (kvX ks gs L k))→(∀i t,k≤i→ks[i]? =some t→H[L t]? =some (.arr 76 1 ((gs t).map encP)))→
  (∀H',H'[M]? =some (.mv (kvX ks gs L ks.length))→H'.length=H.length→(∀j,j<H.length→j≠M→(∀t∈ks,j≠L t)→H'[j]? =H[j]?)→AWP P nt kk cd Q ⟨sl,H'⟩)→AWP P nt kk cd Q ⟨sl,H⟩
 |0,k,H,hd,hm,hl,h=>by
  have:k=ks.length:=by omega
  subst this;exact h H hm rfl fun _ _ _ _=>rfl
 |d+1,k,H,hd,hm,hl,h=>by
  have zb:k<ks.length:=by omega
  have hk:ks[k]? =some ks[k]:=zP zb;have z1:=zT zb;generalize ks[k]=t at *
  have zf:=hl k t (zW _) hk;have zg:=Qi hm;refine Ui (L t) zf M hm (Ne.symm (z8 t z1)) rfl ?_;rw[za t z1,AObj.fz,w1f hn z6 hk];refine MG.freeze hn z6 z8 za d (k+1) _ (by omega) (zU (by simpa using zg)) (fun i u hi hu=> ?_) fun H' zh z7 zi=>h H' zh (by simpa using z7) fun j hj zc zd=> ?_
  ·have ze:=zO hu;rw[zH (Ne.symm (z8 u ze)),zH (fun e2=> ?_)]
   ·exact hl i u (by omega) hu
   ·have e3:=z6 t u z1 ze e2;subst e3;obtain⟨h1,h2⟩:=zE.1 hk;obtain⟨h3,h4⟩:=zE.1 hu;have:=(ua hn).1 (h2.trans h4.symm);omega
  ·rw[zi j (by simpa using hj) zc zd,zH (Ne.symm zc),zH (Ne.symm (zd t z1))]
end
end Go.Abs
namespace Go.Abs
theorem B0{o:List Nat}{c:Nat}(h:c∈o):∃i,La o c=i∧o[i]? =some c∧∀j,j<i→o[j]? ≠some c:=by
 unfold La;cases hf:o.findIdx? fun d=>decide (d=c)with
 |none=>rw[vD]at hf;have:=hf c h;simp at this
 |some i=>rw[List.findIdx?_eq_some_iff_getElem]at hf;obtain⟨h1,h2,h3⟩:=hf;refine⟨i,rfl,by rw[zP h1];simpa using h2,fun j hj e=> ?_⟩;obtain⟨hl,e2⟩:=zE.1 e;have:=h3 j hj;rw[e2]at this;simp at this
theorem Mw{o:List Nat}{c:Nat}(h:c∈o)(r:List Nat):La (o++r) c=La o c:=by
 obtain⟨i,e,h1,h2⟩:=B0 h;obtain⟨k,e',h3,h4⟩:=B0 (o:=o++r) (xL r h);rw[e,e'];have z1:=Ey h1;rcases Nat.lt_trichotomy i k with hl|hl|hl
 ·have:=h4 i hl;rw[zI z1]at this;exact absurd h1 this
 ·exact hl.symm
 ·rw[zI (by omega)]at h3;exact absurd h3 (h2 k hl)
theorem c0n{o:List Nat}{c:Nat}(h:c∉o):La (o++[c]) c=o.length:=by
 obtain⟨k,e',h3,h4⟩:=B0 (o:=o++[c]) (c:=c) (by simp);rw[e'];have hk:=Ey h3;simp at hk;by_cases hl:k<o.length
 ·rw[zI hl]at h3;exact absurd (zO h3) h
 ·omega
theorem z1p{o:List Nat}{c d:Nat}(h:c∈o):La (D3 o d) c=La o c:=by obtain⟨r,e,_⟩:=D6 o d;rw[e,Mw h]
theorem Fo{o:List Nat}{l:List Mv}{j:Nat}(h:j<l.length):Wo o (l.take (j+1))=D3 (Wo o (l.take j)) l[j].dst.toNat:=by unfold Wo;rw[zY h,vA];rfl
theorem y0h{o:List Nat}{l:List Mv}{m:Mv}(h:m∈l):m.dst.toNat∈Wo o l:=by
 induction l generalizing o with
 |nil=>cases h
 |cons x l ih=>
  have pre:∀(l:List Mv) (o:List Nat) (c:Nat),c∈o→c∈Wo o l:=by
   intro l;induction l with
   |nil=>intro o c hc;exact hc
   |cons y l ih2=>intro o c hc;refine ih2 (D3 o y.dst.toNat) c ?_;obtain⟨r,e,_⟩:=D6 o y.dst.toNat;rw[e];exact xL _ hc
  rcases yP.1 h with rfl|h
  ·exact pre l _ _ (My _ _)
  ·exact ih h
theorem Ss(o:List Nat)(l:List Mv):∃r,Wo o l=o++r:=by
 induction l generalizing o with
 |nil=>exact⟨[],by simp[Wo]⟩
 |cons x l ih=>obtain⟨r,e⟩:=ih (D3 o x.dst.toNat);obtain⟨r',e',_⟩:=D6 o x.dst.toNat;refine⟨r'++r,?_⟩;have:Wo o (x::l)=Wo (D3 o x.dst.toNat) l:=rfl;rw[this,e,e',wd]
def qMv(o:List Nat)(l:List Mv)(n j:Nat):List Mv:=(l.take j).map fun m=>⟨n,(La (Wo o (l.take j)) m.dst.toNat:Nat),m.on⟩
theorem q0c(o:List Nat)(l:List Mv)(n:Nat):qMv o l n 0=[]:=by simp[qMv]
theorem k1u(o:List Nat)(l:List Mv)(n j:Nat):(qMv o l n j).length≤l.length:=by unfold qMv;simp;omega
theorem w1e(o:List Nat)(l:List Mv)(n:Nat){j:Nat}(h:j<l.length):
  qMv o l n (j+1)=qMv o l n j++[⟨n,(La (D3 (Wo o (l.take j)) l[j].dst.toNat) l[j].dst.toNat:Nat),l[j].on⟩]:=by
 unfold qMv;rw[Fo h,zY h,yX]
 congr 1
 refine xZ fun m hm=> ?_;rw[z1p (y0h hm)]
theorem u1x(a:Aut){o:List Nat}{n:Nat}{c:Nat}(h:o[n]? =some c):qMv o (Pl a c) n (Pl a c).length=mvN a (Wo o (Pl a c)) n:=by
 unfold qMv mvN;rw[xB];obtain⟨r,e⟩:=Ss o (Pl a c);have:(Wo o (Pl a c)).getD n 0=c:=by rw[e,y_,zI (Ey h),h];rfl
 rw[this]
structure QI (a:Aut) (i:Nat) (o:List Nat):Prop where
 nd:o.Nodup
 cl:∀c∈o,Zr a c
 le:i≤o.length
 bfs:Fi a (a.fin.length+1 - i) i o=v0p a
 done:∀(j c:Nat),j<i→o[j]? =some c→∀m∈Pl a c,m.dst.toNat∈o
theorem QI.zero{a:Aut}(ha:Dfa a):QI a 0 [Tx a 0]:=
 ⟨by simp,fun c hc=>by rw[z_.1 hc];exact w0i ha ha.zero,by simp,rfl,fun j c hj=>by omega⟩
theorem QI.len{a:Aut}(ha:Dfa a){i:Nat}{o:List Nat}(h:QI a i o):o.length≤a.fin.length:=u0t ha h.nd h.cl
theorem QI.step{a:Aut}(ha:Dfa a){i:Nat}{o:List Nat}(h:QI a i o){c:Nat}(hc:o[i]? =some c):QI a (i+1) (Wo o (Pl a c)):=by
 have hl:=h.len ha;have hi:=Ey hc;obtain⟨⟨r,h1,h2⟩,h3,h4⟩:=Pm (Pl a c) o h.nd;have z1:=h.cl c (zO hc);refine⟨h3,fun d hd=> ?_,by rw[h1,yL];omega,?_,fun j d hj hd m hm=> ?_⟩
 ·rw[h1]at hd;rcases yH.1 hd with hd|hd
  ·exact h.cl d hd
  ·obtain⟨m,hm,e⟩:=h2 d hd;obtain⟨x,_,e2,_,e4,_⟩:=K3 ha z1 hm;rw[e,e2];simpa using e4
 ·have:=h.bfs;rw[show a.fin.length+1 - i=(a.fin.length+1 - (i+1))+1 by omega,Fi,hc]at this;exact this
 ·rw[h1,zI (by omega)]at hd;by_cases e:j=i
  ·subst e;rw[hc]at hd;cases hd;exact h4 m hm
  ·rw[h1];exact xL _ (h.done j d (by omega) hd m hm)
theorem QI.fin{a:Aut}(ha:Dfa a){i:Nat}{o:List Nat}(h:QI a i o)(hi:i=o.length):o=v0p a:=by have hl:=h.len ha;have:=h.bfs;rw[show a.fin.length+1 - i=(a.fin.length - i)+1 by omega,Fi,xI (by omega)]at this;exact this
def qM(a:Aut)(i:Nat)(o:List Nat):List Mv:=(yV i).flatMap (mvN a o)
theorem u0c(a:Aut)(o:List Nat):qM a 0 o=[]:=by simp[qM]
theorem u1y{a:Aut}{i:Nat}{o:List Nat}(h:QI a i o){c:Nat}(hc:o[i]? =some c):qM a (i+1) (Wo o (Pl a c))=qM a i o++qMv o (Pl a c) i (Pl a c).length:=by
 rw[u1x a hc];unfold qM;rw[wQ,ww]
 congr 1
 ·rw[tN,tN]
  congr 1
  refine xZ fun j hj=> ?_;have z1:=xJ.1 hj;have z6:j<o.length:=wt z1 h.le;obtain⟨r,e⟩:=Ss o (Pl a c);have g1:(Wo o (Pl a c)).getD j 0=o.getD j 0:=by rw[e,y_,y_,zI z6]
  unfold mvN;rw[g1];refine xZ fun m hm=> ?_;have hg:o[j]? =some (o.getD j 0):=by simp[y_,z6]
  rw[e,Mw (h.done j _ z1 hg m hm)]
 ·simp
def qF(a:Aut)(o:List Nat):List Bool:=o.map fun c=>a.fin.getD (Ih a c) false
theorem j15(a:Aut){o:List Nat}{i:Nat}{c:Nat}(l:List Mv)(h:o[i]? =some c):qF a ((Wo o l).take (i+1))=qF a (o.take i)++[a.fin.getD (Ih a c) false]:=by obtain⟨r,e⟩:=Ss o l;have hi:=Ey h;rw[e,List.take_append_of_le_length (by omega)];obtain⟨_,rfl⟩:=zE.1 h;rw[zY hi];unfold qF;rw[yX,xH,vB]
theorem Y8(o:List Nat):Wo o []=o:=rfl
theorem y0t(o:List Nat)(l:List Mv){n:Nat}(h:l.length≤n):(Wo o l).length≤o.length+n:=by
 have key:∀(l:List Mv) (o:List Nat),(Wo o l).length≤o.length+l.length:=by
  intro l;induction l with
  |nil=>intro o;simp[Wo]
  |cons x l ih=>
   intro o;have h1:=ih (D3 o x.dst.toNat);have h2:(D3 o x.dst.toNat).length≤o.length+1:=by unfold D3;split<;>simp
   have h3:Wo o (x::l)=Wo (D3 o x.dst.toNat) l:=rfl;rw[h3,yY];omega
 have:=key l o;omega
theorem f1b(a:Aut):qF a []=[]:=rfl
theorem v1j(a:Aut)(o:List Nat):(qF a o).length=o.length:=by simp[qF]
theorem d1d{a:Aut}(ha:Dfa a){i:Nat}{o:List Nat}(h:QI a i o):(qM a i o).length≤600000:=by
 have hl:=h.len ha;have hf:=ha.ok.fin;have hm:=ha.ok.mvs;have key:∀j,j≤i→((yV j).flatMap (mvN a o)).length≤j * 2048:=by
  intro j;induction j with
  |zero=>intro _;simp
  |succ j ih=>
   intro hj;rw[wQ,ww,yL];have h1:=ih (by omega);have h2:(mvN a o j).length≤2048:=by
    have z1:j<o.length:=wt hj h.le;have hc:=h.cl _ (zT z1);have e:o.getD j 0=o[j]:=by simp[y_,z1]
    have h3:=L1 ha hc;have h4:(Wa a (Ih a o[j]:Nat)).length≤a.mv.length:=xX _ _;unfold mvN;rw[yO,e];omega
   simp only[List.flatMap_cons,List.flatMap_nil,xO];omega
 have:=key i (zW _);have:=h.le;unfold qM;omega
theorem v16{a:Aut}(ha:Dfa a){i:Nat}{o:List Nat}(h:QI a i o)(hi:i=o.length):E2 a=⟨a.types,qF a (o.take i),qM a i o⟩:=by have:=h.fin ha hi;rw[hi,xB];unfold E2 Gp qF qM;rw[←this]
end Go.Abs
namespace Go.Abs
open Go Go.Proofs
theorem z1y(l:List Int)(n:Int):PC Tryz.prog 143 [LI l,.i n] (fun r=>r= .i (Kl (fun m:Int=>m==n) l)):=by
 refine Ql tOk Tryz.func143 rfl Tryz.results143 rfl (by simp[Tryz.ntmps143]) ?_;rw[Tryz.ntmps143];simp only[Qg];refine Yo 0 rfl (fun hlen=> ?_);rw[yO]at hlen;repeat first|(refine r_ ?_;simp)|refine q_ ?_
 refine Qu l.length (fun j=>∀i,∀hi:i<l.length,i<j→(l[i]==n)=false) (fun j=>[(0,LI l),(1,.i n),(5,.i j)]) (fun _=>[]) rfl (by simp) (by simp) (by simp) (by simp) (by simp) ?_;intro j hj hI ih;repeat first|(refine r_ ?_;simp)|refine q_ ?_
 refine Qa rfl (fun z7=> ?_) (fun z8=> ?_)
 ·have z1:j<l.length:=by simpa using z7
  have hw:IntKind.i64.wrap ((j:Int)+1)=j+1:=wrap_i64 _ (by omega) (by omega);repeat first|(refine r_ ?_;simp[z1])|refine q_ ?_
  refine Qa rfl (fun h=> ?_) (fun h=> ?_)
  ·repeat first|(refine r_ ?_;simp)|refine q_ ?_
   rw[Ga (f:=fun m:Int=>m==n) z1 h hI]
  ·repeat first|(refine r_ ?_;simp[hw])|refine q_ ?_
   refine Qs _ (ih z1 (fun i hi za=> ?_)) rfl (by simp) ?_ (by simp) (by simp)
   ·by_cases e:i=j
    ·subst e;exact h
    ·exact hI i hi (by omega)
   ·simp
 ·have z6:j=l.length:=by simp at z8;omega
  subst z6;repeat first|(refine r_ ?_;simp)|refine q_ ?_
  rw[Az (f:=fun m:Int=>m==n) hI]
def x24(l:List Int)(n:Int):Int:=if Kl (fun m:Int=>m==n) l<0 then 0 else Kl (fun m:Int=>m==n) l
theorem z16(l:List Nat)(c:Nat):Kl (fun m:Int=>m==(c:Int)) (Tr l)=match l.findIdx? fun d=>decide (d=c)with|some i=>(i:Int)|none=> -1:=by
 have e:(Tr l).findIdx? (fun m:Int=>m==(c:Int))=l.findIdx? fun d=>decide (d=c):=by
  rw[tF]
  congr 1
  funext x;simp only[Function.comp];rw[wO];simp;omega
 unfold Kl;rw[e];cases l.findIdx? fun d=>decide (d=c)<;>rfl
theorem q14{l:List Nat}{c:Nat}(h:c∈l):Kl (fun m:Int=>m==(c:Int)) (Tr l)=(La l c:Nat):=by
 rw[z16];unfold La;cases hf:l.findIdx? fun d=>decide (d=c)with
 |none=>rw[vD]at hf;have:=hf c h;simp at this
 |some i=>rfl
end Go.Abs
namespace Go.Abs
open Go Go.Proofs Go.Maps Go.RowKit
def kvO(o:List Nat):List (AV×AV):=o.zipIdx.map fun x=>(AV.i (x.1:Nat),AV.i (x.2:Nat))
def mpO(o:List Nat):AObj:= .mp (kvO o)
theorem Nn{o:List Nat}{j:Nat}{p:AV×AV}(h:(kvO o)[j]? =some p):∃c,o[j]? =some c∧p=(AV.i (c:Nat),AV.i (j:Nat)):=by unfold kvO at h;rw[yI,tt]at h;obtain⟨x,hx,rfl⟩:=zZ.1 h;obtain⟨c,hc,rfl⟩:=zZ.1 hx;exact⟨c,hc,by simp⟩
theorem z18(o:List Nat)(c:Nat):kvO (o++[c])=kvO o++[(AV.i (c:Nat),AV.i (o.length:Nat))]:=by unfold kvO;rw[List.zipIdx_append,yX];simp
theorem j1t{o:List Nat}{p:AV×AV}(h:p∈kvO o):∃c∈o,p.1=AV.i (c:Nat):=by obtain⟨j,hj⟩:=yR.1 h;obtain⟨c,hc,rfl⟩:=Nn hj;exact⟨c,zO hc,rfl⟩
theorem g00{o:List Nat}(hb:∀c∈o,c≤1000000):∀p∈kvO o,isKey Tryz.prog 3 p.1:=fun p hp=>by obtain⟨c,hc,e⟩:=j1t hp;rw[e];exact Yk ⟨by omega,by have:=hb c hc;omega⟩
section
variable {nt k:Nat} {S:AS} {ops:Array Oper} {o:Oper} {R:AS→Prop}
theorem Nz {wr:Bool} (hw:Q5 ops S o=some true) (hd:W3 nt o=true) {x ix:Operand} (ho:o.op= .lookup 192 x ix true) {id:Nat} (hx:rho S.sl x=some (.mref id)) {c:Nat} (z6:rho S.sl ix=some (.i (c:Nat))) {l:List Nat} (z7:S.hp[id]? =some (mpO l)) (hn:l.Nodup) (hb:∀c∈l,c≤1000000) (hc:c≤1000000)
  (hR:R (S.putD o.dst (.tup [.i ((if c∈l then La l c else 0:Nat)),.bool (decide (c∈l))]))):Wt Tryz.prog nt k wr ops o S R:=by
 refine Yy tOk hw hd ho w2s rfl T3 Pr hx z6 z7 (Yk ⟨by omega,by omega⟩) (g00 hb) (z:= .i 0) rfl (fun j p hp he=> ?_) (fun z8=> ?_)
 ·obtain⟨c',z1,rfl⟩:=Nn hp;have za:c'=c:=by simp at he;omega
  subst za;have hm:=zO z1;rw[if_pos hm,g0b hn z1]at hR;simpa[hm]using hR
 ·have hm:c∉l:=fun h=>by
   obtain⟨j,hj⟩:=yR.1 h;have zb:=Ey hj;have:(kvO l)[j]? =some (AV.i (c:Nat),AV.i (j:Nat)):=by unfold kvO;rw[yI,tt,hj];simp
   exact z8 _ (zO this) rfl
  rw[if_neg hm]at hR;simpa[hm]using hR
theorem z0r (hw:Q5 ops S o=some true) (hd:W3 nt o=true) {x ix y:Operand} (ho:o.op= .mapUpdate 192 x ix y) {id:Nat} (hx:rho S.sl x=some (.mref id)) {c:Nat} (z1:rho S.sl ix=some (.i (c:Nat))) {l:List Nat} (hy:rho S.sl y=some (.i (l.length:Nat))) (z6:S.hp[id]? =some (mpO l)) (hb:∀c∈l,c≤1000000) (hc:c≤1000000) (hn:c∉l)
  (hR:R (({ S with hp:=S.hp.set id (mpO (l++[c])) }:AS).putD o.dst (.tup []))):Wt Tryz.prog nt k true ops o S R:=by
 refine Ym tOk hw hd ho w2s rfl Pr hx z1 hy (by simp[AV.pure]) z6 (Yk ⟨by omega,by omega⟩) (g00 hb) (fun j p hp he=> ?_) (fun za=> ?_)
 ·obtain⟨c',z7,rfl⟩:=Nn hp;have z8:c'=c:=by simp at he;omega
  subst z8;exact absurd (zO z7) hn
 ·have:mpO (l++[c])= .mp (kvO l++[(AV.i (c:Nat),AV.i (l.length:Nat))]):=by unfold mpO;rw[z18]
  rw[this]at hR;exact hR
theorem y0s (hw:Q5 ops S o=some true) (hd:W3 nt o=true) {x ix y:Operand} (ho:o.op= .insert 192 x ix y) {id:Nat} (hx:rho S.sl x=some (.mref id)) {c:Nat} (z1:rho S.sl ix=some (.i (c:Nat))) (hy:rho S.sl y=some (.i 0)) (z6:S.hp[id]? =some (.mp [])) (hc:c≤1000000)
  (hR:R (({ S with hp:=S.hp.set id (mpO [c]) }:AS).putD o.dst (.tup []))):Wt Tryz.prog nt k true ops o S R:=by
 refine Cl tOk hw hd ho w2s rfl Pr hx z1 hy (by simp[AV.pure]) z6 (Yk ⟨by omega,by omega⟩) (fun p hp=>by cases hp) (fun j p hp he=>by cases hp) (fun z7=> ?_);exact hR
end
end Go.Abs
/-
 DERIVED:THE SHELF's CONTRACTS AT THIS DUMP,IN PLAIN WORDS (tools/lay-plain.mjs out of 'TryzShelf.lean',which tools/lay-shelf.mjs wrote):THE SAME DECLARATIONS UNDER THE SAME NAMES:'import','namespace','open','def','theorem' AND NOTHING ELSE:no command of the shelf's:FOR A HAND-IN. Each laying:the table of numbers ('.._ren') and one theorem,a field a fact of the dump's own or the kernel's comparison;each contract:ONE APPLICATION.
-/
namespace Go.Proofs
open Go.Shelf
def Tryz.sortMv_ren:Go.Shelf.Ren:=⟨fun|6=>186|15=>199|14=>203|28=>216|29=>217|20=>227|21=>228|22=>229|23=>230|24=>231|25=>232|26=>233|27=>234|46=>247|47=>236|48=>237|49=>248|50=>249|57=>256|n=>n,fun|22=>23|24=>78|25=>243|3=>3|39=>213|0=>0|53=>247|55=>250|4=>4|46=>263|45=>262|50=>134|5=>5|9=>9|66=>281|70=>285|76=>296|77=>297|n=>n,fun|n=>n⟩
theorem Tryz.sortMv:Go.Proofs.SlLaysF0.n6 Tryz.prog Tryz.sortMv_ren:={
 mixed:=by kernel_rfl
 f6:=⟨Tryz.f186.name,by decide,Tryz.func186.trans (congrArg some (by kernel_rfl))⟩
 f14:=⟨Tryz.f203.name,by decide,Tryz.func203.trans (congrArg some (by kernel_rfl))⟩
 f15:=Tryz.func199.trans (congrArg some (by kernel_rfl))
 f20:=⟨Tryz.f227.name,by decide,Tryz.func227.trans (congrArg some (by kernel_rfl))⟩
 f21:=⟨Tryz.f228.name,by decide,Tryz.func228.trans (congrArg some (by kernel_rfl))⟩
 f22:=⟨Tryz.f229.name,by decide,Tryz.func229.trans (congrArg some (by kernel_rfl))⟩
 f23:=⟨Tryz.f230.name,by decide,Tryz.func230.trans (congrArg some (by kernel_rfl))⟩
 f24:=⟨Tryz.f231.name,by decide,Tryz.func231.trans (congrArg some (by kernel_rfl))⟩
 f25:=⟨Tryz.f232.name,by decide,Tryz.func232.trans (congrArg some (by kernel_rfl))⟩
 f26:=⟨Tryz.f233.name,by decide,Tryz.func233.trans (congrArg some (by kernel_rfl))⟩
 f27:=⟨Tryz.f234.name,by decide,Tryz.func234.trans (congrArg some (by kernel_rfl))⟩
 f28:=Tryz.func216.trans (congrArg some (by kernel_rfl))
 f29:=Tryz.func217.trans (congrArg some (by kernel_rfl))
 f46:=⟨Tryz.f247.name,by decide,Tryz.func247.trans (congrArg some (by kernel_rfl))⟩
 f47:=Tryz.func236.trans (congrArg some (by kernel_rfl))
 f48:=Tryz.func237.trans (congrArg some (by kernel_rfl))
 f49:=⟨Tryz.f248.name,by decide,Tryz.func248.trans (congrArg some (by kernel_rfl))⟩
 f50:=⟨Tryz.f249.name,by decide,Tryz.func249.trans (congrArg some (by kernel_rfl))⟩
 f57:=⟨Tryz.f256.name,by decide,Tryz.func256.trans (congrArg some (by kernel_rfl))⟩
 t0:=Tryz.underlying0
 a0:=Tryz.isAgg0
 z0:=Tryz.sizeOf0
 v0:=Tryz.zeroValue0
 t3:=Tryz.underlying3
 a3:=Tryz.isAgg3
 z3:=Tryz.sizeOf3
 v3:=Tryz.zeroValue3
 t4:=Tryz.underlying4
 a4:=Tryz.isAgg4
 z4:=Tryz.sizeOf4
 v4:=Tryz.zeroValue4
 t5:=Tryz.underlying5
 a5:=Tryz.isAgg5
 z5:=Tryz.sizeOf5
 v5:=Tryz.zeroValue5
 t9:=Tryz.underlying9
 a9:=Tryz.isAgg9
 z9:=Tryz.sizeOf9
 v9:=Tryz.zeroValue9
 t22:=Tryz.underlying23
 a22:=Tryz.isAgg23
 z22:=Tryz.sizeOf23
 v22:=Tryz.zeroValue23
 t25:=Tryz.underlying243
 a25:=Tryz.isAgg243
 z25:=Tryz.sizeOf243
 v25:=Tryz.zeroValue243
 t39:=Tryz.underlying213
 a39:=Tryz.isAgg213
 z39:=Tryz.sizeOf213
 v39:=Tryz.zeroValue213
 t45:=Tryz.underlying262
 a45:=Tryz.isAgg262
 z45:=Tryz.sizeOf262
 v45:=Tryz.zeroValue262
 t46:=Tryz.underlying263
 a46:=Tryz.isAgg263
 z46:=Tryz.sizeOf263
 v46:=Tryz.zeroValue263
 t50:=Tryz.underlying134
 a50:=Tryz.isAgg134
 z50:=Tryz.sizeOf134
 v50:=Tryz.zeroValue134
 t53:=Tryz.underlying247
 a53:=Tryz.isAgg247
 z53:=Tryz.sizeOf247
 v53:=Tryz.zeroValue247
 t55:=Tryz.underlying250
 a55:=Tryz.isAgg250
 z55:=Tryz.sizeOf250
 v55:=Tryz.zeroValue250
 t66:=Tryz.underlying281
 a66:=Tryz.isAgg281
 z66:=Tryz.sizeOf281
 v66:=Tryz.zeroValue281
 t70:=Tryz.underlying285
 a70:=Tryz.isAgg285
 z70:=Tryz.sizeOf285
 v70:=Tryz.zeroValue285
 t76:=Tryz.underlying296
 a76:=Tryz.isAgg296
 z76:=Tryz.sizeOf296
 v76:=Tryz.zeroValue296
 t77:=Tryz.underlying297
 a77:=Tryz.isAgg297
 z77:=Tryz.sizeOf297
 v77:=Tryz.zeroValue297 }
end Go.Proofs
namespace Go.Abs
open Go Go.Proofs Go.RowKit Go.Shelf Go.Lib Go.Sort
def ltM(m k:Mv):Bool:=Ln (kyM m) (kyM k)
def q26(m k:Mv):Int:=if ltM m k=true then -1 else 1
def gdM(T:Nat)(m:Mv):Prop:=PWf T m.on∧Wi m.on=false∧∀s∈m.on,s.length≤1000000000
attribute [local irreducible] Ei Qz Qn Zl
theorem g1i(T:Nat)(hT:T≤16)(m k:Mv)(hm:gdM T m)(hk:gdM T k):PC Tryz.prog 187 [encMv m,encMv k] (fun r=>r= .i (q26 m k)):=by
 refine Ql tOk Tryz.func187 rfl Tryz.results187 rfl (by simp[Tryz.ntmps187]) ?_;rw[Tryz.ntmps187];simp only[Qg];simp only[encMv];have h1:=B3 hm.1;have h2:=B3 hk.1;rw[hm.2.1]at h1;rw[hk.2.1]at h2;have h3:=x14 m.on k.on;have hR:q26 m k=if Zl (Qn m.on) (Qn k.on)=true then -1 else 1:=by rw[h3];rfl
 rw[hR];repeat first|(refine r_ ?_;simp)|refine q_ ?_
 refine Qe rfl rfl (by simp) (Ah T m.on m.on hm.1 hm.1 hm.2.2 hm.2.2 (by omega)) rfl ?_;rintro _ rfl;simp;rw[h1];simp[Nr];repeat first|(refine r_ ?_;simp)|refine q_ ?_
 refine Qe rfl rfl (by simp) (Ah T k.on k.on hk.1 hk.1 hk.2.2 hk.2.2 (by omega)) rfl ?_;rintro _ rfl;simp;rw[h2];simp[Nr];repeat first|(refine r_ ?_;simp)|refine q_ ?_
 refine Qe rfl rfl (by simp) (Jy (Qn m.on) (Qn k.on)) rfl ?_;rintro _ rfl;simp;cases hb:Zl (Qn m.on) (Qn k.on)with
 |true=>refine Qm rfl ?_;repeat (first|(refine r_ ?_;simp)|refine q_ ?_)
 |false=>refine Qm rfl ?_;repeat first|(refine r_ ?_;simp)|refine q_ ?_
theorem f0b{w:World}{I:Nat→Prop}{v:Value}{k:IntKind}{n:Int}(h:PVR w I v (.int k n)):v.oneCell'=true:=by cases h;rfl
theorem z1a{w:World}{I:Nat→Prop}{v:Value}{xs:List AV}(h:PVR w I v (.list xs)):v.oneCell'=true:=by cases h;rfl
def GdE(T:Nat)(w:World)(I:Nat→Prop)(x:List Value×Mv):Prop:=x.1.length=3∧(∀v∈x.1,v.oneCell'=true)∧gdM T x.2∧∀(j:Nat) (y:AV),(encMv x.2).cells[j]? =some y→∃v,x.1[j]? =some v∧PVR w I v y
abbrev MvE (T:Nat) (w:World) (I:Nat→Prop):={ x:List Value×Mv // GdE T w I x }
def v0n{T:Nat}{w:World}{I:Nat→Prop}(x:MvE T w I):List Value:=x.1.1
def f1x{T:Nat}{w:World}{I:Nat→Prop}(x y:MvE T w I):Int:=q26 x.1.2 y.1.2
theorem ltE{T:Nat}{w:World}{I:Nat→Prop}(x y:MvE T w I):ltOf f1x x y=ltM x.1.2 y.1.2:=by unfold ltOf f1x q26;cases ltM x.1.2 y.1.2<;>rfl
theorem y29{T:Nat}{w:World}{I:Nat→Prop}:SWO (ltOf (f1x (T:=T) (w:=w) (I:=I))) where
 irrefl x:=by rw[ltE,←uT];intro h;exact U4.irr ((R0 _ _).1 h)
 trans x y z h1 h2:=by rw[ltE]at *;exact(R0 _ _).2 (((R0 _ _).1 h1).trans ((R0 _ _).1 h2))
 ntrans x y z h1 h2:=by
  rw[ltE]at *;rw[←uT]at *;intro h
  have h3:=(R0 _ _).1 h;have h4:¬U4 (kyM x.1.2).1 (kyM x.1.2).2 (kyM y.1.2).1 (kyM y.1.2).2:=fun k=>h1 ((R0 _ _).2 k);have h5:¬U4 (kyM y.1.2).1 (kyM y.1.2).2 (kyM z.1.2).1 (kyM z.1.2).2:=fun k=>h2 ((R0 _ _).2 k);unfold U4 at *;omega
theorem q1v(m:Mv):(encMv m).cells=[.i m.src,.i m.dst,.list (m.on.map encL)]:=rfl
theorem D0{T:Nat}{w:World}{I:Nat→Prop}{l:List Mv}{F:Array Value}(hR:RowW w I 3 (l.map encMv) F)(hg:∀m∈l,gdM T m){i:Nat}(hi:i<l.length):GdE T w I ([F[i * 3]!,F[i * 3+1]!,F[i * 3+2]!],l[i]):=by
 have hx:(l.map encMv)[i]? =some (encMv l[i]):=by simp[hi]
 have c0:=hR.cell i _ hx 0 _ rfl;have c1:=hR.cell i _ hx 1 _ rfl;have c2:=hR.cell i _ hx 2 _ rfl;rw[Nat.add_zero]at c0;refine⟨rfl,fun v hv=> ?_,hg _ (zT hi),fun j y hy=> ?_⟩
 ·simp only[yP,List.not_mem_nil,or_false]at hv;rcases hv with rfl|rfl|rfl
  ·exact f0b c0
  ·exact f0b c1
  ·exact z1a c2
 ·rw[q1v]at hy
  match j,hy with
  |0,hy=>simp at hy;subst hy;exact⟨_,rfl,c0⟩
  |1,hy=>simp at hy;subst hy;exact⟨_,rfl,c1⟩
  |2,hy=>simp at hy;subst hy;exact⟨_,rfl,c2⟩
theorem j0o(T:Nat)(hT:T≤16)(H:List AObj)(p:Nat)(l:List Mv)(hp:H[p]? =some (.arr 78 3 (l.map encMv)))(hl:l.length≤1000000)(hg:∀m∈l,gdM T m):
  FC Tryz.prog 186 [.sl p 3 0 l.length,.fn (.func 187) [] []] H
   (fun r H'=>r= .tup []∧∃l':List Mv,l'.Perm l∧l'.Pairwise (fun x y=>ltM y x=false)∧H'=H.set p (.arr 78 3 (l'.map encMv))):=by
 refine(k1t (xs:=l.map encMv) (T7 Tryz.func186 rfl rfl) (by simp) hp [.func (.func 187) #[] #[]] (fun w I m vs a b=>Me _ w I m _ vs a b) (fun zc=>∃l':List Mv,l'.Perm l∧l'.Pairwise (fun x y=>ltM y x=false)∧zc=l'.map encMv) ?_ ?_).mono ?_
 ·intro w I b cap F hE hI zg hR hH hb hc;have zh:F.size=l.length * 3:=by have:=hR.size;simpa using this
  by_cases z6:l=[]
  ·subst z6;refine Calls.mono (AnyF.slices_SortFunc_none Tryz.sortMv (some ⟨b,0,none⟩) cap _ w) ?_;rintro e w' ⟨rfl,rfl⟩;refine⟨rfl,[],F,0,#[],⟨[],.refl _,.nil,rfl⟩,rfl,hR,?_⟩;rw[grow_empty];exact(putRow_self id w' b 0 F hH).symm
  ·have z8:0<l.length:=List.length_pos_iff.2 z6;have eg:∀args w,(callFunc 187 args).run Tryz.prog w= .ok (.enter 187 args) w:=enters_of Tryz.func187 (by kernel_rfl) rfl;let _:Inhabited (MvE T w I):=⟨⟨_,D0 hR hg z8⟩⟩
   obtain⟨dl,za⟩:∃dl:List (MvE T w I),dl=List.ofFn fun i:Fin l.length=>(⟨_,D0 hR hg i.2⟩:MvE T w I):=⟨_,rfl⟩
   have z7:dl.length=l.length:=by rw[za];simp
   have zd:∀i (h:i<l.length),dl[i]? =some ⟨_,D0 hR hg h⟩:=fun i h=>by rw[za];simp[h]
   have zi:dl.map (fun x=>x.1.2)=l:=by
    refine xW fun i=> ?_;rw[yI];by_cases h:i<l.length
    ·rw[zd i h,zP h];rfl
    ·rw[xI (by omega),xI (by omega)];rfl
   clear za;have zj:flatK v0n 3 dl.toArray=F:=by
    refine ext_get! (by simp[z7,zh]) fun t ht=> ?_;have zk:t<dl.length * 3:=by simpa using ht
    rw[get_flatK _ _ _ _ (by simpa using zk)];have hi:t / 3<l.length:=by omega
    have e1:dl.toArray[t / 3]! =⟨_,D0 hR hg hi⟩:=by rw[getElem!_pos dl.toArray _ (by simp;omega)];have:=zd _ hi;obtain⟨h1,h2⟩:=zE.1 this;simpa using h2
    rw[e1];simp only[v0n];have hm:t % 3=0∨t % 3=1∨t % 3=2:=by omega
    rcases hm with h|h|h<;>rw[h]
    ·have:t / 3 * 3=t:=by omega
     simp[this]
    ·have:t / 3 * 3+1=t:=by omega
     simp[this]
    ·have:t / 3 * 3+2=t:=by omega
     simp[this]
   have zl:HoldsK v0n 3 w b 0 dl.toArray:=by unfold HoldsK;rw[zj];exact hH
   have zb:CmpLays Tryz.prog 187 #[] v0n 3 (f1x (T:=T) (w:=w) (I:=I)) b 0 dl.toArray.size w:=fun q os dk hs x y=>by
    have hW:∀c,I c→(sortWorldK v0n 3 w b 0 q dk os).heap[c]? =w.heap[c]? :=fun c ze=>by have zm:=hI c ze;have zn:b≠c:=fun e=>zg (e▸ze);simp only[sortWorldK,grow,putRowK,putRow,mapBlock,Sort.ahead];rw[Array.getElem?_append_left (by simpa using zm),Array.getElem?_modify,if_neg zn]
    have zf:∀z:MvE T w I,PVR w I (.agg (v0n z).toArray) (encMv z.1.2):=fun z=>by
     refine .agg _ _ (by simp[v0n,z.2.1]) fun i v x' hv z1=> ?_;obtain⟨v',h1,h2⟩:=z.2.2.2.2 i x' z1;have:v=v':=by simp only[v0n,List.getElem?_toArray]at hv;rw[hv]at h1;exact Option.some.inj h1
     rw[this];exact h2
    refine(g1i T hT x.1.2 y.1.2 x.2.2.2.1 y.2.2.2.1).laid hE hI hW (by simp) fun i v x' hv z1=> ?_
    match i,hv,z1 with
    |0,hv,z1=>simp at hv z1;subst hv z1;exact zf x
    |1,hv,z1=>simp at hv z1;subst hv z1;exact zf y
   have:=AnyQ.slices_SortFunc Tryz.sortMv 3 Tryz.isAgg78 Tryz.sizeOf78 v0n (fun x=>x.2.1) (fun x v hv=>x.2.2.1 v hv) f1x y29 187 #[] b 0 cap dl.toArray w eg zb zl hb (by simp;omega);rw[show(dl.toArray).size=l.length by simp[z7]]at this;refine Calls.mono this ?_;rintro e w' ⟨rfl,d',n,os,h1,h2,rfl⟩;obtain⟨s1,_,s3⟩:=h1;have hs:d'.toList.length=l.length:=by simpa[z7]using s1
   refine⟨rfl,(d'.toList.map (fun x=>x.1.2)).map encMv,flatK v0n 3 d',n,os,⟨d'.toList.map (fun x=>x.1.2),?_,?_,rfl⟩,by simp[hs],⟨by simp,fun x hx=> ?_,fun i x hx j y hy=> ?_⟩,rfl⟩
   ·rw[show d'.extract 0 l.length=d' by simp[←hs],show dl.toArray.extract 0 l.length=dl.toArray by simp[←z7]]at s3;have:=(s3:d'.toList.Perm dl).map (fun x=>x.1.2)
    rwa [zi]at this
   ·refine wU.2 (yU.2 fun i j hi hj zo=> ?_);have:=h2 i j (wD _) zo (by omega);rw[ltE,getElem!_pos d' i (by simpa using hi),getElem!_pos d' j (by simpa using hj)]at this;simpa using this
   ·obtain⟨z,_,rfl⟩:=zX.1 hx;rfl
   ·rw[yI,yI]at hx;obtain⟨z0,zp,rfl⟩:=zZ.1 hx;obtain⟨z,hz,rfl⟩:=zZ.1 zp;obtain⟨hi,rfl⟩:=zE.1 hz;have hj:j<3:=(zE.1 hy).1;have zq:i<d'.size:=by simpa using hi
    rw[get_flatK _ _ _ _ (by omega)];rw[show(i * 3+j) / 3=i by omega,show(i * 3+j) % 3=j by omega];rw[getElem!_pos d' i zq];obtain⟨v,h1,h2⟩:=d'[i].2.2.2.2 j y (by simpa using hy);have:(v0n d'[i])[j]! =v:=by unfold v0n;rw[List.getElem!_eq_getElem?_getD,h1];rfl
    rw[this];exact h2
 ·rintro h;have z6:l=[]:=by
   cases l with
   |nil=>rfl
   |cons x r=>simp at h
  subst z6;exact⟨⟨[],.refl _,.nil,rfl⟩,fun w=>AnyF.slices_SortFunc_none Tryz.sortMv none 0 _ w⟩
 ·rintro r H' ⟨rfl,zc,⟨l',h1,h2,rfl⟩,rfl⟩;exact⟨rfl,l',h1,h2,rfl⟩
end Go.Abs
namespace Go.Abs
theorem f1z{T B:Nat}{l:List Prd}(h:∀i,(Qx l i).length≤B):∀s∈Ud T l,s.length≤B:=fun s hs=>by unfold Ud at hs;obtain⟨i,_,rfl⟩:=zX.1 hs;exact yW (y15 _) (h i)
end Go.Abs
namespace Go.Abs
open Go Go.Proofs Go.Maps Go.RowKit
theorem Mo{l:List Nat}{i:Nat}(h:i<l.length):l.getD i 0=l[i]:=by simp[y_,h]
attribute [local irreducible] Wa Ei Rv Ud z1g L4 Jx kvG
theorem Kh{α:Type}:∀(l:List α) (i:Nat) (x:α),l[i]? =some x→l.Perm (x::l.eraseIdx i)
 |[],i,x,h=>by simp at h
 |y::l,0,x,h=>by simp at h;subst h;simp
 |y::l,i+1,x,h=>by simp only[List.getElem?_cons_succ]at h;exact((Kh l i x h).cons y).trans (List.Perm.swap x y _)
theorem w0x{a:Aut}(ha:OkA a)(cl:List Nat)(s:Int)(t:Nat):(Ow a cl s t).length≤2048:=by unfold Ow;rw[yO];exact yW (xX _ _) (yW (Fg a s) ha.mvs)
theorem q1m(ks:List Nat)(t:Nat):(Hw ks t).length≤ks.length+1:=by
 unfold Hw;split
 ·omega
 ·simp
theorem x1x(cl:List Nat):∀(l:List Mv) (ks:List Nat),(l.foldl (fun ks m=>Hw ks (clD cl m)) ks).length≤ks.length+l.length
 |[],ks=>by simp
 |m::l,ks=>by have h1:=x1x cl l (Hw ks (clD cl m));have h2:=q1m ks (clD cl m);simp only[x_,yY];omega
theorem Xr{a:Aut}(ha:OkA a)(cl:List Nat)(s:Int)(t i:Nat):(Qx (Ow a cl s t) i).length≤1000000:=by
 have h1:∀p∈Ow a cl s t,PCk a.types.toNat p:=fun p hp=>by obtain⟨m,hm,rfl⟩:=zX.1 hp;exact(ha.mv m (Wu.1 (xU.1 hm).1).1).on
 have h2:=w0x ha cl s t;have:=Yp h1 i;omega
theorem g0t{x y:Mv}(h:ltM y x=false)(z1:kyM x≠kyM y):ltG kyM x y:=by
 unfold ltG;have h1:¬U4 (kyM y).1 (kyM y).2 (kyM x).1 (kyM x).2:=fun k=>by have:ltM y x=true:=(R0 _ _).2 k;rw[h]at this;cases this
 have h2:¬((kyM x).1=(kyM y).1∧(kyM x).2=(kyM y).2):=fun k=>z1 (ta k.1 k.2);unfold U4 at *;omega
theorem u0g(a:Aut)(ha:Dfa a)(cl:List Nat)(x6:cl.length=a.fin.length)(y3:∀c∈cl,c≤1000000)(s:Int)(hs:inS a s):PC Tryz.prog 138 [Em a,LI (Tr cl),.i s] (fun r=>r= .list ((z1g a cl s).map encMv)):=by
 refine Ql tOk Tryz.func138 rfl Tryz.results138 rfl (by simp[Tryz.ntmps138]) ?_;rw[Tryz.ntmps138];simp only[Qg];simp only[Em,Q1];have yi:=ha.ok.fin;have x7:=Fg a s;have x8:=ha.ok.mvs;have y4:=fun m (hm:m∈Wa a s)=>ha.ok.mv m (Wu.1 hm).1;have zo:=L5 hs;have x9:=Fm hs;have yj:=hs.1;have yk:=hs.2;have yl:(Rv a).length=a.fin.length:=by unfold Rv;simp
 simp only[Tw]at zo;have zu:∀hh,(Rv a)[s.toNat]'hh= .list ((Wa a s).map encMv):=fun hh=>by rw[zP hh]at zo;exact Option.some.inj zo
 repeat first|(refine r_ ?_;simp)|refine q_ ?_
 refine R7 rfl rfl rfl ?_;simp;repeat first|(refine r_ ?_;simp[zo,zu,yj,yk,yl])|refine q_ ?_
 refine q10 1 rfl ?_;simp;obtain⟨K,hK⟩:∃K,K=[AObj.vars [.i a.types,.list (a.fin.map .bool),.list (a.mv.map encMv),.list (Rv a)]]:=⟨_,rfl⟩
 have ym:K[0]? =some (.vars [.i a.types,.list (a.fin.map .bool),.list (a.mv.map encMv),.list (Rv a)]):=by rw[hK];rfl
 refine Wf fun Z hZ=> ?_;have zG:MG K 1 (Jx a cl s 0) (L4 a cl s 0) (fun _=>0) Z:=by rw[c0h];refine⟨by rw[hZ];unfold kvG;rfl,by simp,by simp,by simp,by rw[hK];simp,by simp,fun j hj=> ?_⟩;rw[hK]at hj;simp at hj;subst hj;rw[hZ,hK];rfl
 clear hZ;refine Qo (Qc (sl':=[(1,LI (Tr cl)),(3,.vptr 0 0),(6,.nils),(7,.mref 1),(18,.list ((Wa a s).map encMv)),(19,.i (Wa a s).length),(20,.i (0:Nat))]) ?_ (by simp));refine Qp (P:=Tryz.prog) (F:=fun(u:Nat×(Nat→Nat)×List AObj)=>⟨[(1,LI (Tr cl)),(3,.vptr 0 0),(6,.nils),(7,.mref 1),(18,.list ((Wa a s).map encMv)),(19,.i (Wa a s).length),(20,.i u.1)],u.2.2⟩)
  (fun u=>u.1≤(Wa a s).length∧MG K 1 (Jx a cl s u.1) (L4 a cl s u.1) u.2.1 u.2.2) (fun u=>(Wa a s).length - u.1) ?_ (0,fun _=>0,Z) ⟨wD _,zG⟩
 clear zG;clear Z;rintro⟨j,L,G⟩ ⟨hj,gG⟩ ih;simp only at hj gG ih ⊢;have za:=k18 a cl s j;have zp:∀t∈Jx a cl s j,t≤1000000:=fun t ht=>by
  obtain⟨m,hm,rfl⟩:=Lu.1 ht;unfold clD;have:=xV hm;by_cases h:m.dst.toNat<cl.length
  ·rw[Mo h];exact y3 _ (zT h)
  ·simp[y_,h]
 have yn:=fun t (h:t∉Jx a cl s j)=>q1t h;repeat first|(refine r_ ?_;simp)|refine q_ ?_
 refine Qa rfl (fun zv=> ?_) (fun yo=> ?_)
 ·have z7:j<(Wa a s).length:=by simpa using zv
  have hw:IntKind.i64.wrap ((j:Int)+1)=j+1:=wrap_i64 _ (by omega) (by omega);have zh:=g01 a cl s z7;have zq:=k0d a cl s z7;have y5:=y4 _ (zT z7);have y6:∀t,(L4 a cl s j t).length≤j:=fun t=>by unfold L4;rw[yO];refine yW (xX _ _) ?_;rw[wp];omega
  have zf:=fun L' G'=>ih (j+1,L',G');simp only[zh,zq]at zf;clear zh zq;have y7:((Wa a s).map encMv)[j]? =some (encMv (Wa a s)[j]):=by simp[z7]
  have y8:∀hh,((Wa a s).map encMv)[j]'hh=encMv (Wa a s)[j]:=fun hh=>by simp
  generalize (Wa a s)[j]=m at *;generalize Jx a cl s j=ks at *;generalize L4 a cl s j=gs at *;simp only[encMv]at y7 y8
  repeat first|(refine r_ ?_;simp[y7,y8,z7])|refine q_ ?_
  obtain⟨d,hd⟩:∃d:Nat,m.dst=d:=⟨m.dst.toNat,by have:=y5.dst.1;omega⟩
  have z8:d<cl.length:=by have:=y5.dst.2;omega
  have zw:clD cl m=cl[d]:=by unfold clD;rw[hd];exact Mo z8
  have zr:clD cl m≤1000000:=by rw[zw];exact y3 _ (zT z8)
  have yp:(Tr cl)[d]? =some ((clD cl m:Nat):Int):=by rw[zw];simp[z8]
  have yq:∀hh,(Tr cl)[d]'hh=((clD cl m:Nat):Int):=fun hh=>(yJ hh).2 yp;rw[hd]at *;refine Wf fun Y hY=> ?_
  have yG:MG K 1 ks gs L Y:=by rw[hY];exact gG.grow _
  have yx:Y[G.length]? =some (.vars [.i m.src,.i d,.list (m.on.map encL)]):=by rw[hY,zL (by simp)];simp
  clear hY gG;generalize G.length=x at *;clear G
  have xa:=y6 (clD cl m);have zx:=yn (clD cl m);have yM:=yG.map;have zi:=fun np H'=>yG.put (t:=clD cl m) (p:=m.on) (np:=np) (H':=H');have yr:=yG.leaf (clD cl m);have zy:=yG.ne (clD cl m);generalize clD cl m=t at *
  have zb:cl[d]=t:=zw.symm;have zc:∀E,(Y++E)[x]? =some (.vars [.i m.src,.i d,.list (m.on.map encL)]):=fun E=>Qb yx E;have zd:∀E hh,(Y++E)[x]'hh= .vars [.i m.src,.i d,.list (m.on.map encL)]:=fun E hh=>(yJ hh).2 (zc E);by_cases htk:t∈ks
  ·have ze:=yr htk;have y9:=zy htk;have yt:L t≠x:=fun e=>by rw[e,yx]at ze;simp at ze
   have ya:=Qi ze;have z6:((gs t).map encP).length=(gs t).length:=by simp
   generalize yu:(gs t).map encP=ge at *
   have zt:∀E,(Y.set (L t) .dead++E)[x]? =some (.vars [.i m.src,.i d,.list (m.on.map encL)]):=fun E=>Qb (Qd yt yx _) E;have zz:∀E hh,(Y.set (L t) .dead++E)[x]'hh= .vars [.i m.src,.i d,.list (m.on.map encL)]:=fun E hh=>(yJ hh).2 (zt E);refine Y3 (P:=Tryz.prog) tOk mixed [16,17] (.val 0 (.val 1 (.val 2 (.val 6 (.val 7 (.val 8 (.val 9 (.val 10 (.val 11 (.val 13 (.val 14 (.three 3 (.val 4 (.three 5 (.two 12 (.one 15 (.one 16 (.one 17 (.done)))) 15 (.one 12 (.one 16 (.one 17 (.done))))) 12 (.two 5 (.one 15 (.one 16 (.one 17 (.done)))) 15 (.two 5 (.one 16 (.one 17 (.done))) 16 (.val 5 (.one 17 (.done))))) 15 (.two 5 (.one 12 (.one 16 (.one 17 (.done)))) 12 (.two 5 (.one 16 (.one 17 (.done))) 16 (.val 5 (.one 17 (.done))))))) 12 (.two 3 (.val 4 (.two 5 (.one 15 (.one 16 (.one 17 (.done)))) 15 (.two 5 (.one 16 (.one 17 (.done))) 16 (.val 5 (.one 17 (.done)))))) 15 (.two 3 (.val 4 (.two 5 (.one 16 (.one 17 (.done))) 16 (.val 5 (.one 17 (.done))))) 16 (.val 3 (.val 4 (.val 5 (.one 17 (.done))))))) 15 (.two 3 (.val 4 (.two 5 (.one 12 (.one 16 (.one 17 (.done)))) 12 (.two 5 (.one 16 (.one 17 (.done))) 16 (.val 5 (.one 17 (.done)))))) 12 (.two 3 (.val 4 (.two 5 (.one 16 (.one 17 (.done))) 16 (.val 5 (.one 17 (.done))))) 16 (.val 3 (.val 4 (.val 5 (.one 17 (.done))))))))))))))))))) (fun S'=>∃np,MG K 1 (Hw ks t) (fun u=>if u=t then gs t++[m.on]else gs u) (fun u=>if u=t then np else L u) S'.hp∧look S'.sl 1=some (LI (Tr cl))∧look S'.sl 3=some (.vptr 0 0)∧look S'.sl 6=some .nils∧look S'.sl 7=some (.mref 1)∧look S'.sl 18=some (.list ((Wa a s).map encMv))∧look S'.sl 19=some (.i (Wa a s).length)∧look S'.sl 20=some (.i j)) rfl (by kernel_rfl) ?_ ?_
   ·simp[yx,zc,zd,zb,z8]
    repeat' (first
     |refine And.intro ?_ ?_
     |(refine Fl rfl rfl rfl rfl rfl (by first|exact yM|exact Qb yM _) zp zr ?_;rw[if_pos htk];simp[yx,zc,zd,zb,z8])
     |(refine Qf tOk rfl rfl T91 rfl T76 rfl (by decide) (by decide) rfl rfl rfl ?_;simp[Qb ze,Qj ze,z6,yx,zc,zd,zt,zz,zb,z8];refine⟨by simp[Wk,z6]<;>omega,?_⟩;simp[zt,zz,zb,z8])
     |(refine Qf tOk rfl rfl T91 rfl T76 rfl (by decide) (by decide) rfl rfl rfl ?_;simp[Qb ze,Qj ze,z6,yx,zc,zd,zt,zz,zb,z8];refine⟨by simp[Wk,z6]<;>omega,?_⟩))
    all_goals
     refine Jf rfl rfl rfl rfl rfl (np:=Y.length+1) (n:=(gs t).length+1) rfl (ks:=ks) (gs:=gs) (L:=L) (Qb (Qd y9 yM _) _) zp zr za zx m.on rfl ?_;simp;refine⟨Y.length+1,zi (Y.length+1) _ (by omega) (Qh (Qb (Qd y9 yM _) _) _) ?_ ?_⟩
     ·rw[zH (by have:=Qi yM;omega),zL (by simp),yX,yu];simp
     ·intro jj h1 h2 h3;rw[zH (Ne.symm h2),zI (by simpa using h1),zH (fun e=>h3 htk e.symm)]
   ·rintro⟨sl,E⟩ ⟨np,hE,s1,s3,s6,s7,s18,s19,s20⟩;simp only at hE s1 s3 s6 s7 s18 s19 s20;simp;refine Qw (sl':=[(1,LI (Tr cl)),(3,.vptr 0 0),(6,.nils),(7,.mref 1),(18,.list ((Wa a s).map encMv)),(19,.i (Wa a s).length),(20,.i j)]) ?_ (by simp[s1,s3,s6,s7,s18,s19,s20]);repeat first|(refine r_ ?_;simp[hw])|refine q_ ?_
    refine Qc (sl':=[(1,LI (Tr cl)),(3,.vptr 0 0),(6,.nils),(7,.mref 1),(18,.list ((Wa a s).map encMv)),(19,.i (Wa a s).length),(20,.i (j+1:Nat))]) ?_ (by simp);exact zf _ E ⟨by omega,hE⟩ (by omega)
  ·have yb:=zx htk;have z6:(gs t).length=0:=by rw[yb];rfl
   refine Y3 (P:=Tryz.prog) tOk mixed [16,17] (.val 0 (.val 1 (.val 2 (.val 6 (.val 7 (.val 8 (.val 9 (.val 10 (.val 11 (.val 13 (.val 14 (.three 3 (.val 4 (.three 5 (.two 12 (.one 15 (.one 16 (.one 17 (.done)))) 15 (.one 12 (.one 16 (.one 17 (.done))))) 12 (.two 5 (.one 15 (.one 16 (.one 17 (.done)))) 15 (.two 5 (.one 16 (.one 17 (.done))) 16 (.val 5 (.one 17 (.done))))) 15 (.two 5 (.one 12 (.one 16 (.one 17 (.done)))) 12 (.two 5 (.one 16 (.one 17 (.done))) 16 (.val 5 (.one 17 (.done))))))) 12 (.two 3 (.val 4 (.two 5 (.one 15 (.one 16 (.one 17 (.done)))) 15 (.two 5 (.one 16 (.one 17 (.done))) 16 (.val 5 (.one 17 (.done)))))) 15 (.two 3 (.val 4 (.two 5 (.one 16 (.one 17 (.done))) 16 (.val 5 (.one 17 (.done))))) 16 (.val 3 (.val 4 (.val 5 (.one 17 (.done))))))) 15 (.two 3 (.val 4 (.two 5 (.one 12 (.one 16 (.one 17 (.done)))) 12 (.two 5 (.one 16 (.one 17 (.done))) 16 (.val 5 (.one 17 (.done)))))) 12 (.two 3 (.val 4 (.two 5 (.one 16 (.one 17 (.done))) 16 (.val 5 (.one 17 (.done))))) 16 (.val 3 (.val 4 (.val 5 (.one 17 (.done))))))))))))))))))) (fun S'=>∃np,MG K 1 (Hw ks t) (fun u=>if u=t then gs t++[m.on]else gs u) (fun u=>if u=t then np else L u) S'.hp∧look S'.sl 1=some (LI (Tr cl))∧look S'.sl 3=some (.vptr 0 0)∧look S'.sl 6=some .nils∧look S'.sl 7=some (.mref 1)∧look S'.sl 18=some (.list ((Wa a s).map encMv))∧look S'.sl 19=some (.i (Wa a s).length)∧look S'.sl 20=some (.i j)) rfl (by kernel_rfl) ?_ ?_
   ·simp[yx,zc,zd,zb,z8]
    repeat' (first
     |refine And.intro ?_ ?_
     |(refine Fl rfl rfl rfl rfl rfl (by first|exact yM|exact Qb yM _) zp zr ?_;rw[if_neg htk];simp[yx,zc,zd,zb,z8])
     |(refine Qf tOk rfl rfl T91 rfl T76 rfl (by decide) (by decide) rfl rfl rfl ?_;simp[yx,zc,zd,zb,z8];refine⟨by simp[Wk]<;>omega,?_⟩))
    all_goals
     refine Jf rfl rfl rfl rfl rfl (np:=Y.length+1) (n:=1) rfl (ks:=ks) (gs:=gs) (L:=L) (Qb yM _) zp zr za zx m.on (by rw[z6]) ?_;simp;refine⟨Y.length+1,zi (Y.length+1) _ (by omega) (Qh (Qb yM _) _) ?_ ?_⟩
     ·rw[zH (by have:=Qi yM;omega),zL (by simp),yX,yb];simp
     ·intro jj h1 h2 h3;rw[zH (Ne.symm h2),zI h1]
   ·rintro⟨sl,E⟩ ⟨np,hE,s1,s3,s6,s7,s18,s19,s20⟩;simp only at hE s1 s3 s6 s7 s18 s19 s20;simp;refine Qw (sl':=[(1,LI (Tr cl)),(3,.vptr 0 0),(6,.nils),(7,.mref 1),(18,.list ((Wa a s).map encMv)),(19,.i (Wa a s).length),(20,.i j)]) ?_ (by simp[s1,s3,s6,s7,s18,s19,s20]);repeat first|(refine r_ ?_;simp[hw])|refine q_ ?_
    refine Qc (sl':=[(1,LI (Tr cl)),(3,.vptr 0 0),(6,.nils),(7,.mref 1),(18,.list ((Wa a s).map encMv)),(19,.i (Wa a s).length),(20,.i (j+1:Nat))]) ?_ (by simp);exact zf _ E ⟨by omega,hE⟩ (by omega)
 ·have y0:j=(Wa a s).length:=by simp at yo;omega
  subst y0;have y6:∀t,(L4 a cl s (Wa a s).length t).length≤2048:=fun t=>by unfold L4;rw[yO];refine yW (xX _ _) ?_;rw[wp];omega
  refine Qw (sl':=[(3,.vptr 0 0),(6,.nils),(7,.mref 1)]) ?_ (by simp);refine MG.freeze za gG.inj gG.ne (fun t ht=>by simp[AV.fz]) (Jx a cl s (Wa a s).length).length 0 G (by omega) (by rw[y1j];exact gG.map) (fun i t _ ht=>gG.leaf t (zO ht)) fun H' y1 yc yd=> ?_;have g0:H'[0]? =some (.vars [.i a.types,.list (a.fin.map .bool),.list (a.mv.map encMv),.list (Rv a)]):=by rw[yd 0 (by have:=Qi gG.map;omega) (by decide) (fun t ht e=>by have:=gG.geL t ht;rw[hK]at this;simp at this;omega),gG.keep 0 (by rw[hK];simp)];exact ym
  rw[k12]at y1;clear yd gG ih;refine w1u 1 y1 (by simp[AV.pure]) ?_;have z1:=Qh y1 (.mp ((Jx a cl s (Wa a s).length).map fun t:Nat=>(AV.i t,AV.list ((L4 a cl s (Wa a s).length t).map encP))));have z0:=Qd (j:=1) (by decide) g0 (.mp ((Jx a cl s (Wa a s).length).map fun t:Nat=>(AV.i t,AV.list ((L4 a cl s (Wa a s).length t).map encP))));generalize H'.set 1 _=Z at *
  repeat first|(refine r_ ?_;simp)|refine q_ ?_
  refine Ba tOk rfl rfl rfl q27 rfl rfl z1 ?_;simp;repeat first|(refine r_ ?_;simp)|refine q_ ?_
  have zq:L4 a cl s (Wa a s).length=Ow a cl s:=funext fun t=>q18 a cl s t;rw[zq]at *;generalize zh:Jx a cl s (Wa a s).length=ks at *;refine Qw (sl':=[(3,.vptr 0 0),(6,.nils),(10,.nils),(43,.vptr Z.length 0)]) ?_ (by simp)
  refine Q6 10 78 3 rfl ?_;simp;have xb:=Qi z1;refine Wf fun E hE=> ?_;have e0:E[0]? =some (.vars [.i a.types,.list (a.fin.map .bool),.list (a.mv.map encMv),.list (Rv a)]):=by rw[hE];exact Qb (Qd (j:=1) (by decide) z0 _) _
  have ei:E[Z.length]? =some (.it (ks.map fun t:Nat=>(.i t,.list ((Ow a cl s t).map encP))) none):=by rw[hE,zL (by simp)];simp
  have eq:E[Z.length+1]? =some (.arr 78 3 []):=by rw[hE,zL (by simp)];simp
  clear hE;generalize Z.length=I at *;clear z0 z1;clear Z
  have hT:=ha.ok.types;have yv:((a.types.toNat:Nat):Int)=a.types:=by omega
  have ye:∀t,∀p∈Ow a cl s t,PWf a.types.toNat p:=fun t p hp=>by obtain⟨m,hm,rfl⟩:=zX.1 hp;exact(Bx ha.ok (xU.1 hm).1).1
  have yf:∀t,(Ow a cl s t).length≤1000000:=fun t=>yW (w0x ha.ok cl s t) (by decide);have hU:∀t,PC Tryz.prog 161 [.i a.types,LP (Ow a cl s t)] (fun r=>r=encP (Ud a.types.toNat (Ow a cl s t))):=fun t=>by
   have:=Xv a.types.toNat (Ow a cl s t) (by omega) (ye t) (fun i _=>Xr ha.ok cl s t i) (yf t)
   rwa [yv]at this
  have yw:ks.length≤2048:=by rw[←zh];unfold Jx;rw[xB];have:=x1x cl (Wa a s) [];simp only[List.length_nil]at this;omega
  have yy:∀t,∀r∈Ud a.types.toNat (Ow a cl s t),r.length≤1000000000:=fun t r hr=>by have:=f1z (fun i=>Xr ha.ok cl s t i) r hr;omega
  clear ye yf;refine Qo (Qc (sl':=[(3,.vptr 0 0),(6,.nils),(10,.sl (I+1) 3 0 ([]:List Nat).length),(43,.vptr I 0)]) ?_ (by simp));refine Qp (P:=Tryz.prog) (F:=fun(u:List Nat×Option (AV×AV)×List Nat×Nat×List AObj)=>⟨[(3,.vptr 0 0),(6,.nils),(10,.sl u.2.2.2.1 3 0 u.2.2.1.length),(43,.vptr I 0)],u.2.2.2.2⟩)
   (fun u=>I<u.2.2.2.1∧(u.2.2.1++u.1).Perm ks∧u.2.2.2.2[0]? =some (.vars [.i a.types,.list (a.fin.map .bool),.list (a.mv.map encMv),.list (Rv a)])∧u.2.2.2.2[I]? =some (.it (u.1.map fun t:Nat=>(.i t,.list ((Ow a cl s t).map encP))) u.2.1)∧u.2.2.2.2[u.2.2.2.1]? =some (.arr 78 3 (u.2.2.1.map fun t:Nat=>encMv ⟨0,t,Ud a.types.toNat (Ow a cl s t)⟩))) (fun u=>u.1.length) ?_ (ks,none,[],I+1,E) ⟨by simp only;omega,by simp,e0,ei,eq⟩
  clear e0 ei eq;clear E;rintro⟨left,cur,ds,q,E⟩ ⟨yz,zg,e0,ei,eq⟩ ih;simp only at yz zg e0 ei eq ih ⊢;repeat first|(refine r_ ?_;simp)|refine q_ ?_
  refine y07 rfl rfl rfl rfl ei (fun x0=> ?_) (fun i p hp=> ?_)
  ·simp;have x1:left=[]:=by simpa using x0
   subst x1;rw[xO]at zg;have xc:ds.length≤2048:=by rw[zg.length_eq];exact yw
   repeat first|(refine r_ ?_;simp)|refine q_ ?_
   refine Qm rfl ?_;simp;repeat first|(refine r_ ?_;simp)|refine q_ ?_
   have x2:(ds.map fun t:Nat=>encMv ⟨0,t,Ud a.types.toNat (Ow a cl s t)⟩)=(ds.map fun t:Nat=>(⟨0,(t:Int),Ud a.types.toNat (Ow a cl s t)⟩:Mv)).map encMv:=by rw[v_];rfl
   rw[x2]at eq;have zj:=f06 ha cl s (ks:=ds) (zg.symm.nodup za) (fun t=>by
    rw[zg.mem_iff,←zh,Lu,xB])
   have yg:∀m∈(ds.map fun t:Nat=>(⟨0,(t:Int),Ud a.types.toNat (Ow a cl s t)⟩:Mv)),gdM a.types.toNat m:=fun m hm=>by refine⟨zj.wf m hm,(Tc (zj.wf m hm)).2 (zj.ne m hm),fun t ht=> ?_⟩;obtain⟨u,_,rfl⟩:=zX.1 hm;exact yy u t ht
   obtain⟨L,hL⟩:∃L,L=(ds.map fun t:Nat=>(⟨0,(t:Int),Ud a.types.toNat (Ow a cl s t)⟩:Mv)):=⟨_,rfl⟩
   have x3:ds.length=L.length:=by rw[hL];simp
   rw[←hL]at eq zj yg;have x4:L.length≤1000000:=by omega
   rw[x3];refine Q8 rfl rfl (j0o a.types.toNat (by omega) E q L eq x4 yg) rfl ?_;rintro r H' ⟨rfl,l',h1,h2,rfl⟩;simp;have yh:=F5 ha cl hs;have zk:=zj.perm h1.symm;have zv:l'.Pairwise (ltG kyM):=by have x5:=zk.apart fun t t' ty y=>Bf ha hs;refine(h2.and x5).imp fun {x y} h=> ?_;obtain⟨e1,e2⟩:=h;exact g0t e1 e2
   have zl:l'=z1g a cl s:=zk.uniq yh.1 zv yh.2;have ya:=h1.length_eq;rw[←ya];refine Qw (sl':=[(6,.nils),(10,.sl q 3 0 l'.length)]) ?_ (by simp);refine Wl q (Qh eq _) ?_;simp[AV.fz];rw[zV (by simp),zl];repeat first|(refine r_ ?_;simp)|refine q_ ?_
  ·simp;rw[yI]at hp;obtain⟨t,ht,rfl⟩:=zZ.1 hp;rw[j0t];have zm:(ds++[t]++left.eraseIdx i).Perm ks:=by refine List.Perm.trans ?_ zg;rw[wd];exact List.Perm.append_left ds (Kh left i t ht).symm
   have xd:(left.eraseIdx i).length<left.length:=by rw[List.length_eraseIdx,if_pos (Ey ht)];have:=Ey ht;omega
   have xe:ds.length+1≤2048:=by have:=zm.length_eq;simp at this;omega
   have xf:=Qi ei;have zf:=fun y2 q' E'=>ih (left.eraseIdx i,y2,ds++[t],q',E');simp only[yL,List.length_singleton,yX,xH,vB]at zf;generalize left.eraseIdx i=left' at *
   have k0:=Qd (j:=I) (by intro e;rw[e,e0]at ei;simp at ei) e0 (.it (left'.map fun t:Nat=>(AV.i t,AV.list ((Ow a cl s t).map encP))) (some (AV.i t,AV.list ((Ow a cl s t).map encP))));have ki:=Qh ei (.it (left'.map fun t:Nat=>(AV.i t,AV.list ((Ow a cl s t).map encP))) (some (AV.i t,AV.list ((Ow a cl s t).map encP))));have kq:=Qd (j:=I) (by omega) eq (.it (left'.map fun t:Nat=>(AV.i t,AV.list ((Ow a cl s t).map encP))) (some (AV.i t,AV.list ((Ow a cl s t).map encP))));generalize E.set I (.it (left'.map fun t:Nat=>(AV.i t,AV.list ((Ow a cl s t).map encP))) (some (AV.i t,AV.list ((Ow a cl s t).map encP))))=E1 at *
   clear e0 ei eq;repeat first|(refine r_ ?_;simp)|refine q_ ?_
   refine Qm rfl ?_;simp;repeat first|(refine r_ ?_;simp)|refine q_ ?_
   refine Bv rfl rfl rfl rfl ki ?_;simp;have zn:(ds.map fun t:Nat=>encMv ⟨0,t,Ud a.types.toNat (Ow a cl s t)⟩).length=ds.length:=by simp
   generalize y4:(ds.map fun t:Nat=>encMv ⟨0,t,Ud a.types.toNat (Ow a cl s t)⟩)=mm at *
   repeat first|(refine r_ ?_;simp[k0])|refine q_ ?_
   refine Qe rfl rfl (by simp) (hU t) rfl ?_;rintro _ rfl;simp;refine Qf tOk rfl rfl T23 rfl T78 rfl (by decide) (by decide) rfl rfl rfl ?_;simp[Qb kq,Qj kq,kq,zn];refine⟨by simp[Wk,Qb kq,Qj kq,kq,zn]<;>omega,?_⟩;repeat first|(refine r_ ?_;simp)|refine q_ ?_
   refine Qc (sl':=[(3,.vptr 0 0),(6,.nils),(10,.sl (E1.length+1) 3 0 (ds.length+1)),(43,.vptr I 0)]) ?_ (by simp);have xg:=Qi kq;refine zf _ (E1.length+1) _ ⟨by omega,by simpa using zm,Qb (Qd (j:=q) (by omega) k0 _) _,Qb (Qd (j:=q) (by omega) ki _) _,?_⟩ (by omega);rw[zL (by simp)];simp
end Go.Abs
namespace Go.Abs
open Go Go.Proofs
theorem K6{a:Aut}(ha:Dfa a):(clA a).length=a.fin.length:=(c16 ha).len
theorem f1w{a:Aut}(ha:Dfa a):∀c∈clA a,c≤1000000:=fun c hc=>by obtain⟨j,hj⟩:=yR.1 hc;obtain⟨z1,rfl⟩:=zE.1 hj;have:=(c16 ha).lt_fs (by rw[K6 ha]at z1;exact z1);have h2:=d0d ha;have h3:=ha.ok.fin;simp only[y_,zP z1,Option.getD_some]at this;have h4:(Pn (eqS a) a.fin.length).1.length≤a.fin.length:=h2;unfold clA at *;omega
theorem f0r{l:List Nat}{i:Nat}(h:i<l.length):l.getD i 0∈l:=by rw[y_,zP h];exact zT h
theorem j1o{a:Aut}(ha:Dfa a){c:Nat}(hc:Zr a c):c∈clA a:=by
 obtain⟨h1,h2⟩:=Aq ha hc;have hl:Ih a c<(clA a).length:=by rw[K6 ha];exact h1
 have e:Tx a (Ih a c)=(clA a).getD (Ih a c) 0:=rfl;rw[←h2,e];exact f0r hl
theorem u18{a:Aut}(ha:Dfa a){c:Nat}(hc:Zr a c):Kl (fun y:Int=>((c:Nat):Int)==y) (Tr (clA a))=(Ih a c:Nat):=by
 have e:(fun y:Int=>((c:Nat):Int)==y)=fun y:Int=>y==((c:Nat):Int):=by funext y;rw[wO,beq_iff_eq,beq_iff_eq];exact eq_comm
 rw[e,q14 (j1o ha hc)];rfl
theorem w1j{a:Aut}(ha:Dfa a):(clA a)[0]? =some (Tx a 0):=by
 have z1:0<(clA a).length:=by rw[K6 ha];have:=ha.zero.2;omega
 have:Tx a 0=(clA a).getD 0 0:=by unfold Tx;rfl
 rw[this,y_,zP z1];rfl
theorem u0x{a:Aut}(ha:Dfa a){c:Nat}(hc:Zr a c):c≤1000000:=by have h3:=d0d ha;have h4:=ha.ok.fin;unfold Zr at hc;omega
end Go.Abs
namespace Go.Abs
open Go Go.Proofs Go.Maps Go.RowKit
abbrev c0t (a:Aut):AObj:= .vars [.i a.types,.list (a.fin.map .bool),.list (a.mv.map encMv),.list (Rv a)]
theorem g0m(a:Aut)(c:Nat):z1g a (clA a) (Ih a c:Nat)=Pl a c:=rfl
theorem z0h{l:List Bool}{i:Nat}(h:i<l.length):l[i]? =some (l.getD i false):=by simp[y_,h]
attribute [local irreducible] clA Ih Pl Wo D3 La qMv qM qF E2 mpO Tx z1g Rv Zr
theorem V6(a:Aut)(ha:Dfa a):PC Tryz.prog 80 [Em a] (fun r=>r=encA (E2 a)):=by
 refine Ql tOk Tryz.func80 rfl Tryz.results80 rfl (by simp[Tryz.ntmps80]) ?_;rw[Tryz.ntmps80];simp only[Qg];simp only[Em,Q1];have xh:=ha.ok.fin;have hlen:=K6 ha;have hle:=f1w ha;have y3:0<(clA a).length:=by rw[hlen];have:=ha.zero.2;omega
 have xi:=w1j ha;have xj:Tx a 0≤1000000:=u0x ha (w0i ha ha.zero);repeat first|(refine r_ ?_;simp)|refine q_ ?_
 have cG:=F9 a ha;have cM:=fun(s:Int) (hs:inS a s)=>u0g a ha (clA a) hlen hle s hs;have xk:=fun(c:Nat) (hc:Zr a c)=>u18 ha hc;have y4:(Tr (clA a))[0]? =some ((Tx a 0:Nat):Int):=by simp[xi]
 have yw:0<(Tr (clA a)).length:=by simp[y3]
 generalize Tr (clA a)=CL at *
 have zk:∀hh,CL[0]'hh=((Tx a 0:Nat):Int):=fun hh=>(yJ hh).2 y4;simp only[Em,Q1]at cG cM;refine Qe rfl rfl (by simp) (cG) rfl ?_;rintro _ rfl;simp;repeat first|(refine r_ ?_;simp)|refine q_ ?_
 refine R7 rfl rfl rfl ?_;simp[yw,y4,zk];refine y0s rfl rfl rfl rfl (c:=Tx a 0) rfl rfl rfl xj ?_;simp;repeat first|(refine r_ ?_;simp[yw,y4,zk])|refine q_ ?_
 refine Qw (sl':=[(1,.vptr 0 0),(2,.vptr 1 0),(3,LI CL),(4,.mref 2),(5,.sl 3 1 0 1),(6,.vptr 4 0),(7,.i (0:Nat))]) ?_ (by simp);refine Eo 4 1 4 1 rfl rfl ?_;refine Wf fun Z1 z8=> ?_;have z1l:Z1.length=6:=by rw[z8];simp
 have z1c:Z1[4]? =some (.vars [.i a.types,.sl 5 1 0 0,.nils]):=by rw[z8];rfl
 have z1f:Z1[5]? =some (.arr 4 1 []):=by rw[z8];rfl
 have z1o:Z1[3]? =some (.arr 3 1 [.i (Tx a 0:Nat)]):=by rw[z8];rfl
 have z1m:Z1[2]? =some (mpO [Tx a 0]):=by rw[z8];rfl
 have z10:Z1[0]? =some (c0t a):=by rw[z8];rfl
 have z11:Z1[1]? =some (.vars [.i 0,.nils,.nils]):=by rw[z8];rfl
 clear z8;refine Eo 4 2 78 3 z1c rfl ?_;refine Wf fun Z2 za=> ?_;have z2c:Z2[4]? =some (.vars [.i a.types,.sl 5 1 0 0,.sl 6 3 0 0]):=by rw[za,zU (by simp;omega)];simp[z1l]
 have z2f:Z2[5]? =some (.arr 4 1 []):=by rw[za,zH (by omega),zI (by omega)];exact z1f
 have z2v:Z2[6]? =some (.arr 78 3 []):=by rw[za,zH (by omega),zL (by omega)];simp[z1l]
 have z2o:Z2[3]? =some (.arr 3 1 [.i (Tx a 0:Nat)]):=by rw[za,zH (by omega),zI (by omega)];exact z1o
 have z2m:Z2[2]? =some (mpO [Tx a 0]):=by rw[za,zH (by omega),zI (by omega)];exact z1m
 have z20:Z2[0]? =some (c0t a):=by rw[za,zH (by omega),zI (by omega)];exact z10
 have z21:Z2[1]? =some (.vars [.i 0,.nils,.nils]):=by rw[za,zH (by omega),zI (by omega)];exact z11
 clear za z1l z1c z1f z10 z11 z1o z1m;clear Z1;refine Qo (Qc (sl':=[(1,.vptr 0 0),(2,.vptr 1 0),(3,LI CL),(4,.mref 2),(5,.sl 3 1 0 [Tx a 0].length),(6,.vptr 4 0),(7,.i (0:Nat))]) ?_ (by simp));refine Qp (P:=Tryz.prog) (F:=fun(u:Nat×List Nat×Nat×Nat×Nat×List AObj)=>⟨[(1,.vptr 0 0),(2,.vptr 1 0),(3,LI CL),(4,.mref 2),(5,.sl u.2.2.1 1 0 u.2.1.length),(6,.vptr 4 0),(7,.i u.1)],u.2.2.2.2.2⟩)
  (fun u=>QI a u.1 u.2.1∧u.2.2.2.2.2[0]? =some (c0t a)∧u.2.2.2.2.2[1]? =some (.vars [.i 0,.nils,.nils])∧u.2.2.2.2.2[2]? =some (mpO u.2.1)∧u.2.2.2.2.2[4]? =some (.vars [.i a.types,.sl u.2.2.2.1 1 0 u.1,.sl u.2.2.2.2.1 3 0 (qM a u.1 u.2.1).length])∧u.2.2.2.2.2[u.2.2.1]? =some (.arr 3 1 ((Tr u.2.1).map .i))∧u.2.2.2.2.2[u.2.2.2.1]? =some (.arr 4 1 ((qF a (u.2.1.take u.1)).map .bool))∧u.2.2.2.2.2[u.2.2.2.2.1]? =some (.arr 78 3 ((qM a u.1 u.2.1).map encMv)))
  (fun u=>a.fin.length+1 - u.1) ?_ (0,[Tx a 0],3,5,6,Z2) ⟨QI.zero ha,z20,z21,z2m,by rw[u0c];exact z2c,z2o,by simpa[f1b]using z2f,by rw[u0c];exact z2v⟩
 clear z20 z21 z2c z2f z2v z2o z2m;clear Z2;rintro⟨n,O,o,f,v,G⟩ ⟨hQ,g0,g1,gm,gc,go,gf,gv⟩ ih;simp only at hQ g0 g1 gm gc go gf gv ih ⊢;have w8:=hQ.len ha;have yy:=hQ.cl;repeat first|(refine r_ ?_;simp)|refine q_ ?_
 refine Qa rfl (fun xl=> ?_) (fun xn=> ?_)
 ·have zd:n<O.length:=by simpa using xl
  have hw:IntKind.i64.wrap ((n:Int)+1)=n+1:=wrap_i64 _ (by omega) (by omega);have y5:O[n]? =some O[n]:=zP zd;have zl:=yy _ (zT zd);have yz:=hQ.step ha y5;have x3:=u1y hQ y5;have x4:=j15 a (Pl a O[n]) y5;have xp:=d1d ha hQ;have zx:=fun o' f' v' G'=>ih (n+1,Wo O (Pl a O[n]),o',f',v',G');simp only[x3,x4]at zx;clear x3 x4 ih;have xq:((Tr O).map AV.i).length=O.length:=by simp
  have x5:=(Aq ha zl).1;have xr:=q0f ha zl;have xt:=xk _ zl;have xu:=g0m a O[n];have xw:=L1 ha zl;have x6:∀m∈Pl a O[n],∃d:Nat,m.dst=d∧d≤1000000:=fun m hm=>by obtain⟨x,_,e,_,e2,_⟩:=K3 ha zl hm;exact⟨_,e,u0x ha e2⟩
  generalize xy:O[n]=c at *
  have x7:=z0h x5;have xz:∀hh,a.fin[Ih a c]'hh=a.fin.getD (Ih a c) false:=fun hh=>(yJ hh).2 x7;generalize a.fin.getD (Ih a c) false=b at *
  have w9:(Wa a (Ih a c:Nat)).length≤a.mv.length:=xX _ _;have wa:=ha.ok.mvs;have y6:o≠f:=fun e=>by rw[e,gf]at go;simp at go
  have y7:o≠v:=fun e=>by rw[e,gv]at go;simp at go
  have ze:f≠v:=fun e=>by rw[e,gv]at gf;simp at gf
  have zy:o≠4:=fun e=>by rw[e,gc]at go;simp at go
  have zj:f≠4:=fun e=>by rw[e,gc]at gf;simp at gf
  have zn:v≠4:=fun e=>by rw[e,gc]at gv;simp at gv
  have x8:o≠0:=fun e=>by rw[e,g0]at go;simp at go
  have w2:f≠0:=fun e=>by rw[e,g0]at gf;simp at gf
  have y8:v≠0:=fun e=>by rw[e,g0]at gv;simp at gv
  have x9:o≠1:=fun e=>by rw[e,g1]at go;simp at go
  have y9:f≠1:=fun e=>by rw[e,g1]at gf;simp at gf
  have zp:v≠1:=fun e=>by rw[e,g1]at gv;simp at gv
  have ya:o≠2:=fun e=>by rw[e,gm]at go;unfold mpO at go;simp at go
  have yb:f≠2:=fun e=>by rw[e,gm]at gf;unfold mpO at gf;simp at gf
  have zz:v≠2:=fun e=>by rw[e,gm]at gv;unfold mpO at gv;simp at gv
  repeat first|(refine r_ ?_;simp[go,xq,zd,xy])|refine q_ ?_
  refine Qe rfl rfl (by simp) (w0g CL c) rfl ?_;rintro _ rfl;simp;rw[xt];repeat first|(refine r_ ?_;simp)|refine q_ ?_
  have zq:((qF a (O.take n)).map AV.bool).length=n:=by simp[v1j];omega
  generalize wb:(qF a (O.take n))=fs at *;refine Qk tOk mixed [9,11] (.val 0 (.val 1 (.val 2 (.val 3 (.val 4 (.val 5 (.val 6 (.val 7 (.one 8 (.one 9 (.val 10 (.one 11 (.done))))))))))))) rfl (by kernel_rfl) ?_
  simp[gc,g0,x5,x7,xz];have g2c:∀M,(G.set f .dead++M)[4]? =some (.vars [.i a.types,.sl f 1 0 n,.sl v 3 0 (qM a n O).length]):=fun M=>Qb (Qd zj gc _) M;have g2d:∀M hh,(G.set f .dead++M)[4]'hh= .vars [.i a.types,.sl f 1 0 n,.sl v 3 0 (qM a n O).length]:=fun M hh=>(yJ hh).2 (g2c M);refine Qf tOk rfl rfl T22 rfl T4 rfl (by decide) (by decide) rfl rfl rfl ?_;simp[Qb gf,Qj gf,gf,zq,g2c,g2d];refine⟨by simp[Wk,Qb gf,Qj gf,gf,zq,g2c,g2d]<;>omega,?_⟩;refine Wf fun Z hZ=> ?_;have yd:=Qi go;have ye:=Qi gv;have yg:=Qi gf;have z0:Z[0]? =some (c0t a):=by rw[hZ];exact Qd (by decide) (Qb (Qd w2 g0 _) _) _
  have z1:Z[1]? =some (.vars [.i 0,.nils,.nils]):=by rw[hZ];exact Qd (by decide) (Qb (Qd y9 g1 _) _) _
  have zm:Z[2]? =some (mpO O):=by rw[hZ];exact Qd (by decide) (Qb (Qd yb gm _) _) _
  have zc:Z[4]? =some (.vars [.i a.types,.sl (G.length+1) 1 0 (n+1),.sl v 3 0 (qM a n O).length]):=by rw[hZ];exact Qh (g2c _) _
  have zf:Z[G.length+1]? =some (.arr 4 1 ((fs++[b]).map .bool)):=by rw[hZ,zH (by omega),zL (by simp)];simp
  have zv:Z[v]? =some (.arr 78 3 ((qM a n O).map encMv)):=by rw[hZ];exact Qd (Ne.symm zn) (Qb (Qd ze gv _) _) _
  have zo:Z[o]? =some (.arr 3 1 ((Tr O).map .i)):=by rw[hZ];exact Qd (Ne.symm zy) (Qb (Qd (Ne.symm y6) go _) _) _
  clear hZ g2c g2d g0 g1 gc go gf gv gm;generalize G.length+1=f1 at *
  have cMc:=cM (Ih a c) xr;rw[xu]at cMc;obtain⟨M,hM⟩:∃M,M=qM a n O:=⟨_,rfl⟩
  rw[←hM]at zc zv xp zx;obtain⟨L,hL⟩:∃L,L=Pl a c:=⟨_,rfl⟩
  rw[←hL]at xw x6 zx yz cMc;repeat first|(refine r_ ?_;simp[z0])|refine q_ ?_
  refine Qe rfl rfl (by simp) (cMc) rfl ?_;rintro _ rfl;simp;repeat first|(refine r_ ?_;simp)|refine q_ ?_
  refine Qo (Qc (sl':=[(1,.vptr 0 0),(2,.vptr 1 0),(3,LI CL),(4,.mref 2),(5,.sl o 1 0 (Wo O (L.take 0)).length),(6,.vptr 4 0),(7,.i n),(54,.list (L.map encMv)),(55,.i L.length),(56,.i (0:Nat))]) ?_ (by simp[Y8]));refine Qp (P:=Tryz.prog) (F:=fun(u:Nat×Nat×Nat×List AObj)=>⟨[(1,.vptr 0 0),(2,.vptr 1 0),(3,LI CL),(4,.mref 2),(5,.sl u.2.1 1 0 (Wo O (L.take u.1)).length),(6,.vptr 4 0),(7,.i n),(54,.list (L.map encMv)),(55,.i L.length),(56,.i u.1)],u.2.2.2⟩)
   (fun u=>u.1≤L.length∧u.2.2.2[0]? =some (c0t a)∧u.2.2.2[1]? =some (.vars [.i 0,.nils,.nils])∧u.2.2.2[2]? =some (mpO (Wo O (L.take u.1)))∧u.2.2.2[4]? =some (.vars [.i a.types,.sl f1 1 0 (n+1),.sl u.2.2.1 3 0 (M++qMv O L n u.1).length])∧u.2.2.2[u.2.1]? =some (.arr 3 1 ((Tr (Wo O (L.take u.1))).map .i))∧u.2.2.2[f1]? =some (.arr 4 1 ((fs++[b]).map .bool))∧u.2.2.2[u.2.2.1]? =some (.arr 78 3 ((M++qMv O L n u.1).map encMv))∧(Wo O (L.take u.1)).Nodup∧∀c∈Wo O (L.take u.1),c≤1000000)
   (fun u=>L.length - u.1) ?_ (0,o,v,Z) ⟨wD _,z0,z1,by rw[wM,Y8];exact zm,by rw[q0c,xO];exact zc,by rw[wM,Y8];exact zo,zf,by rw[q0c,xO];exact zv,by rw[wM,Y8];exact hQ.nd,by rw[wM,Y8];exact fun c hc=>u0x ha (yy c hc)⟩
  clear z0 z1 zc zo zf zv yd ye yg zm;clear Z;rintro⟨j,o,v,Z⟩ ⟨hj,z0,z1,zm,zc,zo,zf,zv,y2,zb⟩ ih2;simp only at hj z0 z1 zm zc zo zf zv y2 zb ih2 ⊢;repeat first|(refine r_ ?_;simp)|refine q_ ?_
  refine Qa rfl (fun yh=> ?_) (fun yi=> ?_)
  ·have z7:j<L.length:=by simpa using yh
   have xa:IntKind.i64.wrap ((j:Int)+1)=j+1:=wrap_i64 _ (by omega) (by omega);have xb:=w1e O L n z7;have xd:=Fo (o:=O) z7;have we:=k1u O L n j;have wg:(Wo O (L.take j)).length≤O.length+L.length:=y0t O (L.take j) (by simp;omega);have z6:=fun o' v' Z'=>ih2 (j+1,o',v',Z');simp only[xb,xd,←wd]at z6;clear xb xd;obtain⟨d,hd,yj⟩:=x6 _ (zT z7);have yk:(L.map encMv)[j]? =some (encMv L[j]):=by simp[z7]
   have yl:∀hh,(L.map encMv)[j]'hh=encMv L[j]:=fun hh=>by simp
   generalize w3:L[j]=m at *;rw[hd]at z6;simp only[Int.toNat_natCast]at z6;generalize hN:M++qMv O L n j=N at *
   have wh:N.length≤700000:=by rw[←hN,yL];omega
   generalize Wo O (L.take j)=Oj at *;simp only[encMv]at yk yl;rw[hd]at yk yl
   have wi:4<Z.length:=Qi zc;have y6:o≠f1:=fun e=>by rw[e,zf]at zo;simp at zo
   have y7:o≠v:=fun e=>by rw[e,zv]at zo;simp at zo
   have ze:f1≠v:=fun e=>by rw[e,zv]at zf;simp at zf
   have zy:o≠4:=fun e=>by rw[e,zc]at zo;simp at zo
   have zj:f1≠4:=fun e=>by rw[e,zc]at zf;simp at zf
   have zn:v≠4:=fun e=>by rw[e,zc]at zv;simp at zv
   have x8:o≠0:=fun e=>by rw[e,z0]at zo;simp at zo
   have y8:v≠0:=fun e=>by rw[e,z0]at zv;simp at zv
   have x9:o≠1:=fun e=>by rw[e,z1]at zo;simp at zo
   have zp:v≠1:=fun e=>by rw[e,z1]at zv;simp at zv
   have ya:o≠2:=fun e=>by rw[e,zm]at zo;unfold mpO at zo;simp at zo
   have zz:v≠2:=fun e=>by rw[e,zm]at zv;unfold mpO at zv;simp at zv
   have yb:f1≠2:=fun e=>by rw[e,zm]at zf;unfold mpO at zf;simp at zf
   repeat first|(refine r_ ?_;simp[yk,yl,z7])|refine q_ ?_
   refine Yc fun Y hY=> ?_;have y0:Y[0]? =some (c0t a):=by rw[hY];exact Qb z0 _
   have y1:Y[1]? =some (.vars [.i 0,.nils,.nils]):=by rw[hY];exact Qb z1 _
   have ym:Y[2]? =some (mpO Oj):=by rw[hY];exact Qb zm _
   have yc:Y[4]? =some (.vars [.i a.types,.sl f1 1 0 (n+1),.sl v 3 0 N.length]):=by rw[hY];exact Qb zc _
   have yo:Y[o]? =some (.arr 3 1 ((Tr Oj).map .i)):=by rw[hY];exact Qb zo _
   have yf:Y[f1]? =some (.arr 4 1 ((fs++[b]).map .bool)):=by rw[hY];exact Qb zf _
   have yv:Y[v]? =some (.arr 78 3 (N.map encMv)):=by rw[hY];exact Qb zv _
   have yx:Y[Z.length]? =some (.vars [.i m.src,.i d,.list (m.on.map encL)]):=by rw[hY,zL (by simp)];simp
   clear hY z0 z1 zm zc zo zf zv;generalize Z.length=u at *;clear Z
   have wj:v≠u:=fun e=>by rw[e,yx]at yv;simp at yv
   have w4:o≠u:=fun e=>by rw[e,yx]at yo;simp at yo
   have w5:2≠u:=fun e=>by rw[←e,ym]at yx;unfold mpO at yx;simp at yx
   have wk:4<u:=by omega
   refine Nz rfl rfl rfl rfl (c:=d) rfl (l:=Oj) ym y2 zb yj ?_;by_cases hmem:d∈Oj
   ·have zr:D3 Oj d=Oj:=by unfold D3;rw[if_pos hmem]
    rw[zr]at z6;rw[if_pos hmem,decide_eq_true hmem];obtain⟨x,hx⟩:∃x,x=La Oj d:=⟨_,rfl⟩
    rw[←hx]at z6 ⊢;clear hx zr;simp;repeat first|(refine r_ ?_;simp)|refine q_ ?_
    refine Qm rfl ?_;simp;have zg:=zy;have zh:=y7;have zi:=y2;have yn:=zb;have zt:(N.map encMv).length=N.length:=by simp
    have yp:(N++[(⟨n,x,m.on⟩:Mv)]).map encMv=N.map encMv++[encMv ⟨n,x,m.on⟩]:=by simp
    have yq:(N++[(⟨n,x,m.on⟩:Mv)]).length=N.length+1:=by simp
    rw[yp,yq]at z6;generalize N.map encMv=NM at *
    have g3c:∀M,(Y.set v .dead++M)[4]? =some (.vars [.i a.types,.sl f1 1 0 (n+1),.sl v 3 0 N.length]):=fun M=>Qb (Qd zn yc _) M;have g3d:∀M hh,(Y.set v .dead++M)[4]'hh= .vars [.i a.types,.sl f1 1 0 (n+1),.sl v 3 0 N.length]:=fun M hh=>(yJ hh).2 (g3c M);repeat first|(refine r_ ?_;simp[yc,yx])|refine q_ ?_
    refine Qf tOk rfl rfl T23 rfl T78 rfl (by decide) (by decide) rfl rfl rfl ?_;simp[Qb yv,Qj yv,yv,zt,g3c,g3d];refine⟨by simp[Wk,Qb yv,Qj yv,yv,zt,g3c,g3d]<;>omega,?_⟩;refine Wf fun W hW=> ?_;have yr:=Qi yv;have yt:=Qi yc;have w0:W[0]? =some (c0t a):=by rw[hW];exact Qd (by decide) (Qb (Qd y8 y0 _) _) _
    have w1:W[1]? =some (.vars [.i 0,.nils,.nils]):=by rw[hW];exact Qd (by decide) (Qb (Qd zp y1 _) _) _
    have wm:W[2]? =some (mpO Oj):=by rw[hW];exact Qd (by decide) (Qb (Qd zz ym _) _) _
    have wc:W[4]? =some (.vars [.i a.types,.sl f1 1 0 (n+1),.sl (Y.length+1) 3 0 (N.length+1)]):=by rw[hW];exact Qh (g3c _) _
    have wo:W[o]? =some (.arr 3 1 ((Tr Oj).map .i)):=by rw[hW];exact Qd (Ne.symm zg) (Qb (Qd (Ne.symm zh) yo _) _) _
    have wf:W[f1]? =some (.arr 4 1 ((fs++[b]).map .bool)):=by rw[hW];exact Qd (Ne.symm zj) (Qb (Qd (Ne.symm ze) yf _) _) _
    have wv:W[Y.length+1]? =some (.arr 78 3 (NM++[encMv ⟨n,x,m.on⟩])):=by rw[hW,zH (by omega),zL (by simp)];simp
    clear hW;repeat first|(refine r_ ?_;simp[xa])|refine q_ ?_
    refine Qc (sl':=[(1,.vptr 0 0),(2,.vptr 1 0),(3,LI CL),(4,.mref 2),(5,.sl o 1 0 Oj.length),(6,.vptr 4 0),(7,.i n),(54,.list (L.map encMv)),(55,.i L.length),(56,.i (j+1:Nat))]) ?_ (by simp);exact z6 o (Y.length+1) W ⟨by omega,w0,w1,wm,wc,wo,wf,wv,zi,yn⟩ (by omega)
   ·have zr:D3 Oj d=Oj++[d]:=by unfold D3;rw[if_neg hmem]
    have xe:=c0n hmem;rw[zr,xe]at z6;rw[if_neg hmem,decide_eq_false hmem];clear zr xe;simp;repeat first|(refine r_ ?_;simp)|refine q_ ?_
    refine Qm rfl ?_;simp;repeat first|(refine r_ ?_;simp[yx])|refine q_ ?_
    refine z0r rfl rfl rfl rfl (c:=d) rfl (l:=Oj) rfl ym zb yj hmem ?_;simp;refine Wf fun X hX=> ?_;have x0:X[0]? =some (c0t a):=by rw[hX];exact Qd (by decide) y0 _
    have x1:X[1]? =some (.vars [.i 0,.nils,.nils]):=by rw[hX];exact Qd (by decide) y1 _
    have xm:X[2]? =some (mpO (Oj++[d])):=by rw[hX];exact Qh ym _
    have xc:X[4]? =some (.vars [.i a.types,.sl f1 1 0 (n+1),.sl v 3 0 N.length]):=by rw[hX];exact Qd (by decide) yc _
    have xo:X[o]? =some (.arr 3 1 ((Tr Oj).map .i)):=by rw[hX];exact Qd (Ne.symm ya) yo _
    have xf:X[f1]? =some (.arr 4 1 ((fs++[b]).map .bool)):=by rw[hX];exact Qd (Ne.symm yb) yf _
    have xv:X[v]? =some (.arr 78 3 (N.map encMv)):=by rw[hX];exact Qd (Ne.symm zz) yv _
    have xx:X[u]? =some (.vars [.i m.src,.i d,.list (m.on.map encL)]):=by rw[hX];exact Qd w5 yx _
    clear hX y0 y1 ym yc yo yf yv yx;clear Y;have w6:(Tr Oj).length=Oj.length:=by simp
    have w7:Tr (Oj++[d])=Tr Oj++[(d:Int)]:=by simp
    rw[w7]at z6;generalize Tr Oj=NO at *
    have zu:(NO.map AV.i).length=Oj.length:=by simp[w6]
    have x0s:∀E,(X.set o .dead++E)[u]? =some (.vars [.i m.src,.i d,.list (m.on.map encL)]):=fun E=>Qb (Qd w4 xx _) E;repeat first|(refine r_ ?_;simp[xx])|refine q_ ?_
    refine Qf tOk rfl rfl T40 rfl T3 rfl (by decide) (by decide) rfl rfl rfl ?_;simp[Qb xo,Qj xo,xo,zu];refine⟨by simp[Wk,Qb xo,Qj xo,xo,zu]<;>omega,?_⟩;refine Wf fun Y hY=> ?_;have wq:=Qi xv;have wu:=Qi xf;have wx:=Qi xc;have y0:Y[0]? =some (c0t a):=by rw[hY];exact Qb (Qd x8 x0 _) _
    have y1:Y[1]? =some (.vars [.i 0,.nils,.nils]):=by rw[hY];exact Qb (Qd x9 x1 _) _
    have ym:Y[2]? =some (mpO (Oj++[d])):=by rw[hY];exact Qb (Qd ya xm _) _
    have yc:Y[4]? =some (.vars [.i a.types,.sl f1 1 0 (n+1),.sl v 3 0 N.length]):=by rw[hY];exact Qb (Qd zy xc _) _
    have yf:Y[f1]? =some (.arr 4 1 ((fs++[b]).map .bool)):=by rw[hY];exact Qb (Qd y6 xf _) _
    have yv:Y[v]? =some (.arr 78 3 (N.map encMv)):=by rw[hY];exact Qb (Qd y7 xv _) _
    have yx:Y[u]? =some (.vars [.i m.src,.i d,.list (m.on.map encL)]):=by rw[hY];exact x0s _
    have yo:Y[X.length+1]? =some (.arr 3 1 ((NO++[(d:Int)]).map .i)):=by rw[hY,zL (by simp)];simp
    clear hY;obtain⟨x,hx⟩:∃x,x=Oj.length:=⟨_,rfl⟩
    refine Qw (sl':=[(1,.vptr 0 0),(2,.vptr 1 0),(3,LI CL),(4,.mref 2),(5,.sl (X.length+1) 1 0 (Oj++[d]).length),(6,.vptr 4 0),(7,.i n),(10,.vptr u 0),(11,.i x),(54,.list (L.map encMv)),(55,.i L.length),(56,.i j)]) ?_ (by simp[hx]);rw[←hx]at z6;have zg:X.length+1≠4:=by omega
    have zh:X.length+1≠v:=by omega
    have zi:(Oj++[d]).Nodup:=vT.2 ⟨y2,by simp,fun x hx y hy e=>by rw[z_.1 hy]at e;exact hmem (e▸hx)⟩;have yn:∀c∈Oj++[d],c≤1000000:=fun c hc=>by
     rcases yH.1 hc with hc|hc
     ·exact zb c hc
     ·rw[z_.1 hc];exact yj
    generalize X.length+1=oq at *;generalize NO++[(d:Int)]=NQ at *;clear hx;generalize Oj++[d]=OQ at *
    have zt:(N.map encMv).length=N.length:=by simp
    have yp:(N++[(⟨n,x,m.on⟩:Mv)]).map encMv=N.map encMv++[encMv ⟨n,x,m.on⟩]:=by simp
    have yq:(N++[(⟨n,x,m.on⟩:Mv)]).length=N.length+1:=by simp
    rw[yp,yq]at z6;generalize N.map encMv=NM at *
    have g3c:∀M,(Y.set v .dead++M)[4]? =some (.vars [.i a.types,.sl f1 1 0 (n+1),.sl v 3 0 N.length]):=fun M=>Qb (Qd zn yc _) M;have g3d:∀M hh,(Y.set v .dead++M)[4]'hh= .vars [.i a.types,.sl f1 1 0 (n+1),.sl v 3 0 N.length]:=fun M hh=>(yJ hh).2 (g3c M);repeat first|(refine r_ ?_;simp[yc,yx])|refine q_ ?_
    refine Qf tOk rfl rfl T23 rfl T78 rfl (by decide) (by decide) rfl rfl rfl ?_;simp[Qb yv,Qj yv,yv,zt,g3c,g3d];refine⟨by simp[Wk,Qb yv,Qj yv,yv,zt,g3c,g3d]<;>omega,?_⟩;refine Wf fun W hW=> ?_;have yr:=Qi yv;have yt:=Qi yc;have w0:W[0]? =some (c0t a):=by rw[hW];exact Qd (by decide) (Qb (Qd y8 y0 _) _) _
    have w1:W[1]? =some (.vars [.i 0,.nils,.nils]):=by rw[hW];exact Qd (by decide) (Qb (Qd zp y1 _) _) _
    have wm:W[2]? =some (mpO OQ):=by rw[hW];exact Qd (by decide) (Qb (Qd zz ym _) _) _
    have wc:W[4]? =some (.vars [.i a.types,.sl f1 1 0 (n+1),.sl (Y.length+1) 3 0 (N.length+1)]):=by rw[hW];exact Qh (g3c _) _
    have wo:W[oq]? =some (.arr 3 1 (NQ.map .i)):=by rw[hW];exact Qd (Ne.symm zg) (Qb (Qd (Ne.symm zh) yo _) _) _
    have wf:W[f1]? =some (.arr 4 1 ((fs++[b]).map .bool)):=by rw[hW];exact Qd (Ne.symm zj) (Qb (Qd (Ne.symm ze) yf _) _) _
    have wv:W[Y.length+1]? =some (.arr 78 3 (NM++[encMv ⟨n,x,m.on⟩])):=by rw[hW,zH (by omega),zL (by simp)];simp
    clear hW;repeat first|(refine r_ ?_;simp[xa])|refine q_ ?_
    refine Qc (sl':=[(1,.vptr 0 0),(2,.vptr 1 0),(3,LI CL),(4,.mref 2),(5,.sl oq 1 0 OQ.length),(6,.vptr 4 0),(7,.i n),(54,.list (L.map encMv)),(55,.i L.length),(56,.i (j+1:Nat))]) ?_ (by simp);exact z6 oq (Y.length+1) W ⟨by omega,w0,w1,wm,wc,wo,wf,wv,zi,yn⟩ (by omega)
  ·have zw:j=L.length:=by simp at yi;omega
   subst zw;rw[xB]at zo zm ⊢;repeat first|(refine r_ ?_;simp[hw])|refine q_ ?_
   refine Qc (sl':=[(1,.vptr 0 0),(2,.vptr 1 0),(3,LI CL),(4,.mref 2),(5,.sl o 1 0 (Wo O L).length),(6,.vptr 4 0),(7,.i (n+1:Nat))]) ?_ (by simp);exact zx o f1 v Z ⟨yz,z0,z1,zm,zc,zo,zf,zv⟩ (by omega)
 ·have yu:n=O.length:=by simp at xn;have:=hQ.le;omega
  rw[v16 ha hQ yu];have xg:=v1j a (O.take n);rw[wp,Nat.min_eq_left hQ.le]at xg;generalize qF a (O.take n)=fs at *;generalize qM a n O=M at *
  have ze:f≠v:=fun e=>by rw[e,gv]at gf;simp at gf
  have zj:f≠4:=fun e=>by rw[e,gc]at gf;simp at gf
  have zn:v≠4:=fun e=>by rw[e,gc]at gv;simp at gv
  have y9:f≠1:=fun e=>by rw[e,g1]at gf;simp at gf
  have zp:v≠1:=fun e=>by rw[e,g1]at gv;simp at gv
  rw[←xg]at gc;refine Qw (sl':=[(2,.vptr 1 0),(6,.vptr 4 0)]) ?_ (by simp);refine We v gv 4 gc ?_;simp[ze];rw[zV (by simp)];refine Wf fun Z hZ=> ?_;have wy:=Qi gv;have z2:Z[4]? =some (.vars [.i a.types,.sl f 1 0 fs.length,.list (M.map encMv)]):=by rw[hZ,zU (by have:=Qi gc;simpa using this)]
  have zf:Z[f]? =some (.arr 4 1 (fs.map .bool)):=by rw[hZ,zH (Ne.symm zj),zH (Ne.symm ze)];exact gf
  have z1:Z[1]? =some (.vars [.i 0,.nils,.nils]):=by rw[hZ,zH (by decide),zH zp];exact g1
  clear hZ;refine We f zf 4 z2 ?_;simp;rw[zV (by simp)];refine Wf fun X hX=> ?_;have x2:X[4]? =some (.vars [.i a.types,.list (fs.map .bool),.list (M.map encMv)]):=by rw[hX,zU (by have:=Qi z2;simpa using this)]
  have x1:X[1]? =some (.vars [.i 0,.nils,.nils]):=by rw[hX,zH (by decide),zH y9];exact z1
  clear hX;have x1s:∀Y,(X.set 1 Y)[1]? =some Y:=fun Y=>Qh x1 Y;repeat first|(refine r_ ?_;simp[x2,x1,x1s])|refine q_ ?_
end Go.Abs
namespace Go.Abs
open Go Go.Proofs
theorem q1o{a:Aut}(ha:Dfa a){m:Mv}(hm:m∈(E2 a).mv):E8 a.types m.on=0↔(m.on.any fun s=>decide (256<s.length))=false:=by
 have h:=c08 ha;have hT:=ha.ok.types;have hw:PWf a.types.toNat m.on:=h.on m hm;rw[Es];simp only[List.any_eq_false,decide_eq_true_eq];constructor
 ·rintro⟨_,h2⟩ s hs;have:=(h2.2 s hs).len;omega
 ·intro h2;refine⟨hT,hw.1,fun s hs=> ?_⟩;have z1:=hw.2 s hs;exact Gv z1.1 (w02 z1.1 z1.2) (by have:=h2 s hs;omega)
theorem v0u{a:Aut}(h:Wg a≠0):(Tk a).1=Wg a:=by unfold Tk;rw[Be h,if_pos h]
theorem f0h{a:Aut}(h:(Tk a).1≠0):w0v a=((Tk a).1,Ul):=by rw[w0v,if_pos h]
theorem j1q{a:Aut}(h:Wg a≠0):w0v a=(Wg a,Ul):=by rw[f0h (by rw[v0u h];exact h),v0u h]
theorem Zu{a:Aut}(h:(Tk a).1=0):A5 (Tk a).2=P2 (Tk a).2:=by rw[A5,if_neg (fun k=>k ((Ut _).2 (d1i h)))]
theorem u1a{a:Aut}(h:(Tk a).1=0)(h2:(A5 (Tk a).2).1≠0):w0v a=((A5 (Tk a).2).1,Ul):=by rw[Zu h]at *;rw[w0v,if_neg (fun k=>k h),if_pos h2]
theorem d1l{a:Aut}(h:(Tk a).1=0)(h2:(A5 (Tk a).2).1=0):w0v a=if Bz (E2 (A5 (Tk a).2).2)then(5,Ul)else(0,E2 (A5 (Tk a).2).2):=by rw[Zu h]at *;rw[w0v,if_neg (fun k=>k h),if_neg (fun k=>k h2)]
theorem q1x{a:Aut}(z1:Wg a=0)(h:(Tk a).1=0)(h2:(A5 (Tk a).2).1=0):Dfa (A5 (Tk a).2).2:=by rw[Zu h]at *;exact(u1i ((Ut a).1 z1) (d:=(Tk a).2) (c:=(P2 (Tk a).2).2) (ta h rfl) (ta h2 rfl)).1
end Go.Abs
