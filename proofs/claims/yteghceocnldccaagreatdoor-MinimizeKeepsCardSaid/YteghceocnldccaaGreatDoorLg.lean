/- Part Lg of the proof: an abstract machine over the model, and what the functions of the program hand back in its terms. No condition. -/
import Derived.Test.YteghceocnldccaaGreatDoorLf
import Derived.Test.YteghceocnldccaaGreatDoorLe
set_option linter.all false
open List renaming mem_map→zT,getElem?_map→zW,mem_of_getElem?→zH,getElem?_set_ne→zE,getElem?_set_self→zO,getElem?_append_right→zK,getElem?_append_left→zF,getElem_mem→zL,getElem?_eq_getElem→zJ,getElem?_eq_some_iff→zB,any_eq_false→vw,take_succ_eq_append_getElem→zV,length_cons→yW,length_take→ww,mem_append→zU,mem_of_mem_take→x_,foldl_append→wp,append_assoc→xP,take_of_length_le→zY,mem_singleton→zP,getElem?_eq_none→xA,findIdx?_eq_some_iff_getElem→xF,findIdx?_eq_none_iff→wV,getElem_of_mem→xB,range→yL,take_length→y_,range_succ→wH,foldl_cons→xV,length_append→z_,mem_or_eq_of_mem_set→vF,getD→yS,mem_cons→yB,not_mem_nil→vZ,map_append→yZ,length_map→yK,append_nil→xK,mem_append_left→yY,pairwise_iff_getElem→yQ,pairwise_append→yH,perm_middle→vE,take_append_drop→xW,mem_iff_getElem?→yE,pairwise_cons→yU,mem_filter→xM,pairwise_map→xZ,nodup_append→vG,mem_range→yV,length→vS,findIdx?_cons→tn,ext_getElem→wD,getElem_map→u9,flatMap_def→uJ,map_congr_left→xL,nodup_cons→ut,map_cons→xE,sum_cons→tS,foldl_nil→uo,all_eq_true→zX,drop_eq_getElem_cons→wN,drop_length→xS
open Nat renaming le_refl→zR,lt_trichotomy→vP,zero_le→xY
open Prod renaming ext→ua,ext_iff→uV
open Option renaming getD_some→wB
open Int renaming toNat_natCast→vA
set_option maxHeartbeats 8000000
set_option linter.unusedSimpArgs false
set_option maxRecDepth 100000
namespace Go.Abs
open Go Go.Proofs Go.Maps
attribute [simp] T94 T88
abbrev LQ (Q:List (List Int)):List AV:=Q.map fun l=>LI l
structure TB (r p m:Nat) (a:Aut) (cl:List Prd) (Q:List (List Int)) (H:List AObj):Prop where
 t:H[r]? =some (.vars [.i a.types,.list (a.fin.map .bool),.list (a.mv.map encMv),LP cl,.sl p 1 0 Q.length,.mref m])
 s:H[p]? =some (.arr 40 1 (LQ Q))
 n:H[m]? =some (mpT (Q.map Rv))
def Af(x:List Int):Prop:=x≠[]∧x.length≤256∧∀z∈x,0≤z∧z≤1000000
def v0p(Q:List (List Int))(x:List Int):List (List Int):=if x∈Q then Q else Q++[x]
theorem TB.keep{r p m:Nat}{a:Aut}{cl:List Prd}{Q:List (List Int)}{H H':List AObj}(h:TB r p m a cl Q H)(hk:∀j,(j=r∨j=p∨j=m)→H'[j]? =H[j]?):TB r p m a cl Q H':=
 ⟨(hk r (.inl rfl)).trans h.t,(hk p (.inr (.inl rfl))).trans h.s,(hk m (.inr (.inr rfl))).trans h.n⟩
theorem TB.ne{r p m:Nat}{a:Aut}{cl:List Prd}{Q:List (List Int)}{H:List AObj}(h:TB r p m a cl Q H):r≠p∧r≠m∧p≠m:=by
 refine⟨fun e=> ?_,fun e=> ?_,fun e=> ?_⟩
 ·have h1:=h.t;rw[e,h.s]at h1;simp at h1
 ·have h1:=h.t;rw[e,h.n,E0]at h1;simp at h1
 ·have h1:=h.s;rw[e,h.n,E0]at h1;simp at h1
theorem Af.rng{x:List Int}(h:Af x):∀z∈x,-9223372036854775808≤z∧z≤9223372036854775807:=fun z hz=>by have:=h.2.2 z hz;omega
theorem G4{x:List Int}(h:Af x):(Rv x).length≤1000000:=by have:=q0b h.rng;have:=h.2.1;omega
theorem f1h{x:List Int}{Q:List (List Int)}(hQ:∀l∈Q,Af l)(hx:Af x):Rv x∈Q.map Rv↔x∈Q:=by refine⟨fun h=> ?_,fun h=>zT.2 ⟨x,h,rfl⟩⟩;obtain⟨l,hl,e⟩:=zT.1 h;rw[←Ll (fun z hz=>((hQ l hl).2.2 z hz).1) (fun z hz=>(hx.2.2 z hz).1) e];exact hl
attribute [local irreducible] mpT Rv
theorem Nw(H:List AObj)(r p m:Nat)(a:Aut)(cl:List Prd)(Q:List (List Int))(x:List Int)(h:TB r p m a cl Q H)(hx:Af x)(hQ:∀l∈Q,Af l)(zg:Q.length≤100000):
  FC Tryz.prog 57 [.vptr r 0,LI x] H (fun res H'=>∃(j p':Nat),res= .i j∧(v0p Q x)[j]? =some x∧TB r p' m a cl (v0p Q x) H'∧(p'=p∨H.length≤p')∧H.length≤H'.length∧(x∈Q→H'=H)∧∀i,i<H.length→i≠r→i≠p→i≠m→H'[i]? =H[i]?):=by
 refine Wy tOk Tryz.func57 rfl Tryz.results57 rfl (by simp[Tryz.ntmps57]) ?_;rw[Tryz.ntmps57];simp only[Qg];repeat first|(refine r_ ?_;simp)|refine q_ ?_
 refine Qe rfl rfl (by simp) (u1u x hx.rng (by have:=hx.2.1;omega) hx.1) rfl ?_;rintro _ rfl;simp;have ht:=h.t;have hn:=h.n;have hs:=h.s;obtain⟨n1,n2,n3⟩:=h.ne;repeat first|(refine r_ ?_;simp[ht])|refine q_ ?_
 have z8:∀k∈Q.map Rv,k.length≤1000000:=fun k hk=>by obtain⟨l,hl,rfl⟩:=zT.1 hk;exact G4 (hQ l hl)
 refine Gt (n:=Rv x) rfl rfl rfl rfl rfl hn z8 (G4 hx) (fun j hj=> ?_) (fun za=> ?_)
 ·have zb:Q[j]? =some x:=by rw[zW]at hj;obtain⟨l,hl,e⟩:=Option.map_eq_some_iff.1 hj;rw[←Ll (fun z hz=>((hQ l (zH hl)).2.2 z hz).1) (fun z hz=>(hx.2.2 z hz).1) e];exact hl
  have z1:v0p Q x=Q:=by rw[v0p,if_pos (zH zb)]
  rw[z1];simp;repeat first|(refine r_ ?_;simp)|refine q_ ?_
  refine Qj rfl ?_;simp;repeat first|(refine r_ ?_;simp)|refine q_ ?_
  exact⟨j,rfl,zb,p,h,.inl rfl⟩
 ·have zc:x∉Q:=fun hm=>za ((f1h hQ hx).2 hm);have z1:v0p Q x=Q++[x]:=by rw[v0p,if_neg zc]
  rw[z1];have ze:(Q.map Rv).length=Q.length:=by simp
  simp;repeat first|(refine r_ ?_;simp)|refine q_ ?_
  refine Qj rfl ?_;simp;repeat first|(refine r_ ?_;simp[ht])|refine q_ ?_
  refine Jy (n:=Rv x) rfl rfl rfl rfl rfl (ks:=Q.map Rv) (by rw[ze];rfl) hn z8 (G4 hx) za ?_;simp;have z6:=Qd (Ne.symm n2) ht (mpT (Q.map Rv++[Rv x]));have z7:=Qd (Ne.symm n3) hs (mpT (Q.map Rv++[Rv x]));have zd:=Qh hn (mpT (Q.map Rv++[Rv x]));have zf:∀i,i≠m→(H.set m (mpT (Q.map Rv++[Rv x])))[i]? =H[i]? :=fun i hi=>zE (Ne.symm hi);have zh:(H.set m (mpT (Q.map Rv++[Rv x]))).length=H.length:=by simp
  generalize H.set m (mpT (Q.map Rv++[Rv x]))=G at *
  repeat first|(refine r_ ?_;simp[z6])|refine q_ ?_
  have g1:∀L,(G.set p .dead++L)[r]? =some (.vars [.i a.types,.list (a.fin.map .bool),.list (a.mv.map encMv),LP cl,.sl p 1 0 Q.length,.mref m]):=fun L=>Qa (Qd (Ne.symm n1) z6 _) L;refine Qi tOk rfl rfl T28 rfl T40 rfl (by decide) (by decide) rfl rfl rfl ?_;simp[Qa z7,Ql z7,Qa z6,g1];refine⟨by simp[W8,Qa z7,Ql z7,Qa z6,g1]<;>omega,?_⟩;repeat first|(refine r_ ?_;simp[g1])|refine q_ ?_
  have zi:=Qf z6;have zj:=Qf z7;have zk:=Qf zd;refine⟨Q.length,rfl,by simp,G.length+1,⟨?_,?_,?_⟩,.inr (by omega),by omega,fun h=>absurd h zc,fun i hi h1 h2 h3=> ?_⟩
  ·rw[zO (by simp;omega)];simp
  ·rw[zE (by omega),zK (by simp)];simp[LQ]
  ·rw[zE n2,zF (by simp;omega),zE n3,zd];simp
  ·rw[zE (Ne.symm h1),zF (by simp;omega),zE (Ne.symm h2)];exact zf i h3
end Go.Abs
namespace Go.Abs
open Go Go.Proofs Go.Maps
theorem A4(H:List AObj)(r:Nat)(x:List Int):FC Tryz.prog 56 [.vptr r 0,LI x] H (fun res H'=>res= .fn (.func 120) [] [.vptr H.length 0,.vptr (H.length+1) 0]∧H'=H++[.vars [.vptr r 0],.vars [LI x]]):=by refine Wy tOk Tryz.func56 rfl Tryz.results56 rfl (by simp[Tryz.ntmps56]) ?_;rw[Tryz.ntmps56];simp only[Qg];repeat first|(refine r_ ?_;simp)|refine q_ ?_
attribute [local irreducible] Wa Qm
theorem q08 (a:Aut) (ha:OkA a) (cl:List Prd) (set:List Int) (zg:∀c∈cl,H6 [c]=0∧Wp c=false∧Wv a (Qm c)) (zn:cl.length≤256) (q c1 c2 r:Nat) {z7:Nat} {sl':List (Nat×AV)} {ps:List Tmp} {asg body:Code} (zh:ps.length=2) (zi:(ps.all fun p=>decide (p<z7))=true)
  (Inv:Nat→List AObj→Prop)
  (hI:∀k H,Inv k H→H[q]? =some (.lp true none z7 sl' ps asg body)∧H[c1]? =some (.vars [.vptr r 0])∧H[c2]? =some (.vars [LI set])∧∃rest,H[r]? =some (.vars (.i a.types:: .list (a.fin.map .bool):: .list (a.mv.map encMv)::LP cl::rest)))
  (z8:∀k H L,Inv k H→Inv k (H++L))
  (za:∀k c H,cl[k]? =some c→Wa a set (Qm c)=[]→Inv k H→Inv (k+1) H)
  (z1:∀k c H,cl[k]? =some c→Wa a set (Qm c)≠[]→Inv k H→AWP Tryz.prog z7 H.length asg (Pf (AWP Tryz.prog z7 H.length body (q0u q (fun jm K2=>jm=none∧Inv (k+1) (K2.set q (.lp true none z7 sl' ps asg body))))) (fun _ _=>False)) ⟨Rk sl' ps [encP c,LI (Wa a set (Qm c))],H.set q .dead⟩)
  (H0:List AObj) (h0:Inv 0 H0):FC Tryz.prog 120 [.yld q,.vptr c1 0,.vptr c2 0] H0 (fun _ H'=>Inv cl.length H'):=by
 refine Wy tOk Tryz.func120 rfl Tryz.results120 rfl (by simp[Tryz.ntmps120]) ?_;rw[Tryz.ntmps120];simp only[Qg];obtain⟨i1,i2,i3,rest,i4⟩:=hI 0 H0 h0;repeat first|(refine r_ ?_;simp[i2,i4])|refine q_ ?_
 refine Qo (Qc (sl':=[(0,.yld q),(1,.vptr c1 0),(2,.vptr c2 0),(12,LP cl),(13,.i cl.length),(14,.i (0:Nat))]) ?_ (by simp));clear i1 i2 i3 i4;clear rest;refine Qn (F:=fun(u:Nat×List AObj)=>⟨[(0,.yld q),(1,.vptr c1 0),(2,.vptr c2 0),(12,LP cl),(13,.i cl.length),(14,.i u.1)],u.2⟩)
  (fun u=>u.1≤cl.length∧Inv u.1 u.2) (fun u=>cl.length - u.1) ?_ (0,H0) ⟨by simp,h0⟩
 rintro⟨k,H⟩ ⟨hk,hv⟩ ih;simp only at hk hv ih ⊢;repeat first|(refine r_ ?_;simp)|refine q_ ?_
 refine Qb rfl (fun zj=> ?_) (fun zk=> ?_)
 ·have z6:k<cl.length:=by simpa using zj
  have hw:IntKind.i64.wrap ((k:Int)+1)=k+1:=wrap_i64 _ (by omega) (by omega);have zc:=zg _ (zL z6);have zb:cl[k]? =some cl[k]:=zJ z6;repeat first|(refine r_ ?_;simp[z6])|refine q_ ?_
  generalize cl[k]=c at *;refine Qe rfl rfl (by simp) (z0t c zc.1 zc.2.1) rfl ?_
  rintro _ rfl;simp;repeat first|(refine r_ ?_;simp)|refine q_ ?_
  have zd:=z8 k H [.vars [.list (c.map encL)],.vars [.i (Qm c).ty,.i (Qm c).num]] hv;obtain⟨i1,i2,i3,rest,i4⟩:=hI k _ zd;have h6:(H++[AObj.vars [.list (c.map encL)],.vars [.i (Qm c).ty,.i (Qm c).num]])[H.length+1]? =some (.vars [.i (Qm c).ty,.i (Qm c).num]):=by rw[zK (by omega)];simp
  have h5:(H++[AObj.vars [.list (c.map encL)],.vars [.i (Qm c).ty,.i (Qm c).num]])[H.length]? =some (.vars [.list (c.map encL)]):=by rw[zK (by omega)];simp
  generalize H++[AObj.vars [.list (c.map encL)],.vars [.i (Qm c).ty,.i (Qm c).num]]=G at *;refine Qs tOk mixed [] (.val 0 (.val 1 (.val 2 (.val 3 (.val 4 (.val 5 (.one 6 (.val 7 (.done))))))))) rfl (by kernel_rfl) ?_
  simp[i2,i3,i4,h6];refine Qe rfl rfl (by simp) (Cg a ha set (Qm c) zc.2.2) rfl ?_;rintro _ rfl;simp;have hlen:=Lm ha set (Qm c);have zl:=za k c G zb;have zm:=z1 k c G zb;generalize Wa a set (Qm c)=nx at *
  by_cases hnx:nx=[]
  ·subst hnx;repeat first|(refine r_ ?_;simp[h5])|refine q_ ?_
   refine We rfl rfl ?_;simp;repeat first|(refine r_ ?_;simp)|refine q_ ?_
   refine Qb rfl (fun h=>by cases h) (fun _=> ?_);repeat first|(refine r_ ?_;simp[hw])|refine q_ ?_
   refine Qc (sl':=[(0,.yld q),(1,.vptr c1 0),(2,.vptr c2 0),(12,LP cl),(13,.i cl.length),(14,.i (k+1:Nat))]) ?_ (by simp);exact ih (k+1,G) ⟨by omega,zl rfl zd⟩ (by omega)
  ·have ze:0<nx.length:=List.length_pos_iff.2 hnx;repeat first|(refine r_ ?_;simp[h5,ze])|refine q_ ?_
   refine Yb rfl rfl (q:=q) rfl rfl i1 zh zi rfl (fun jm K2=>jm=none∧Inv (k+1) (K2.set q (.lp true none z7 sl' ps asg body))) ?_ ?_
   ·exact zm hnx zd
   ·rintro jm K2 ⟨rfl,hK⟩;simp;repeat first|(refine r_ ?_;simp)|refine q_ ?_
    refine Qb rfl (fun h=>by cases h) (fun _=> ?_);repeat first|(refine r_ ?_;simp[hw])|refine q_ ?_
    refine Qc (sl':=[(0,.yld q),(1,.vptr c1 0),(2,.vptr c2 0),(12,LP cl),(13,.i cl.length),(14,.i (k+1:Nat))]) ?_ (by simp);exact ih (k+1,_) ⟨by omega,hK⟩ (by omega)
 ·have zf:k=cl.length:=by simp at zk;omega
  subst zf;repeat first|(refine r_ ?_;simp)|refine q_ ?_
  exact hv
end Go.Abs
namespace Go.Abs
open Go Go.Proofs Go.Maps Go.RowKit
section
variable {P:Program} [Env P] {T:TT} {nt k:Nat} {S:AS} {ops:Array Oper} {o:Oper} {R:AS→Prop} {Q:Exit→AS→Prop}
theorem Zr {wr:Bool} {sl:List (Nat×AV)} {H:List AObj} (i j e sz:Nat) {xs:List AV} (hi:H[i]? =some (.vars xs)) (hj:xs[j]? =some .nils)
  (h:Wl P nt k wr ops o ⟨sl,(H++[AObj.arr e sz []]).set i (.vars (xs.set j (.sl H.length sz 0 0)))⟩ R):Wl P nt k wr ops o ⟨sl,H⟩ R:=fun C a w K Q' hs=>by
 obtain⟨I,m,hw,z1,hk,hf⟩:=hs;obtain⟨g1,g2⟩:=hw.push (Below.refl _ _) none (fun b e=>by cases e) (.arr e sz []) (fun m' _ _=> .inl ⟨rfl,rfl⟩);have z8:i<H.length:=(zB.1 hi).1;have z6:(H++[AObj.arr e sz []])[i]? =some (.vars xs):=by rw[zF z8];exact hi
 obtain⟨b,t,vs,hb,hh,za,hr⟩:=g1.obj i _ z6;obtain⟨g3,g4⟩:=g1.set (w':=w) (o':= .vars (xs.set j (.sl H.length sz 0 0))) z6 rfl hb (World.grownBy.refl _ _) (fun _ h=>h) (fun m' z7=>⟨b,t,vs,rfl,hh,by simp[za],fun q v x hv hx=>by
  by_cases hq:j=q
  ·subst hq;rw[zO (zB.1 hj).1]at hx;cases hx;have:=(hr j v _ hv hj).nils_inv;subst this;exact .slnone H.length sz (by simp) (by rw[z7.ids _ (by simp)];exact Wb ..)
  ·rw[zE hq]at hx;exact(hr q v x hv hx).mono z7 (zR _)⟩)
 have hlen:((H++[AObj.arr e sz []]).set i (.vars (xs.set j (.sl H.length sz 0 0)))).length=H.length+1:=by simp
 refine h C a w K Q' ⟨I,upd m H.length none,g3,⟨z1.1,z1.2.1,fun s x hx=> ?_⟩,by simp at hk ⊢;omega,hf.trans hk g2⟩;obtain⟨v,hv,zb⟩:=z1.2.2 s x hx;refine⟨v,hv,?_⟩;have:=zb.mono (n':=H.length+1) g2 (by simp);rw[hlen];exact this
end
theorem Xt{a:Aut}(h:OkA a)(hm:(R0 a.types (onA a)).1=0):∃cl,R0 a.types (onA a)=(0,cl)∧Cls a cl∧cl.length≤256∧∀c∈cl,H6 [c]=0∧Wp c=false∧Wv a (Qm c)∧PWf a.types.toNat c∧∀s∈c,s.length≤256:=by
 have hc:=x11 h;have za:a.mv.map (·.on)=onA a:=rfl;rw[za]at hc;have z7:=q01 h;have zb:=g0i a.types (onA a);rcases d0u h.types z7 with h5|h5
 ·omega
 ·refine⟨_,h5,hc,?_⟩;have hb:S3 (Q9 a.types.toNat (onA a))=false:=by
   cases hb:S3 (Q9 a.types.toNat (onA a))with
   |false=>rfl
   |true=>
    rw[←zb,g06]at hm;rw[if_neg (by have:=h.types;omega)]at hm;have hl:(onA a).length≤256:=by
     by_cases hl:256<(onA a).length
     ·rw[if_pos hl]at hm;simp at hm
     ·omega
    rw[if_neg (by omega),if_neg (fun k=>k ((Ip _).2 fun p hp=>(W5 _ p).2 ⟨h.types,z7 p hp⟩)),hb]at hm;simp at hm
  simp only[S3,Bool.or_eq_false_iff,decide_eq_false_iff_not,vw,decide_eq_true_eq]at hb;refine⟨by omega,fun c z1=> ?_⟩;have hw:=hc.wf c z1;have z8:∀s∈c,s.length≤256:=fun s hs=>by have:=hb.2 c z1;simp only[Bool.not_eq_true,vw,decide_eq_true_eq]at this;have:=this s hs;omega
  have z6:Ey a.types c=0:=(W5 _ c).2 ⟨h.types,hw.1.1,fun s hs=>Gb (hw.1.2 s hs).1 (w0i (hw.1.2 s hs).1 (hw.1.2 s hs).2) (by have:=z8 s hs;omega)⟩;refine⟨(x1x z6).1,?_,z1z hc z1,hw.1,z8⟩;rw[Bool.eq_false_iff];intro hv;obtain⟨ty,y,hy⟩:=hw.2;exact(Tg hw.1).1 hv ty y hy
theorem z1x(a:Aut)(k:Nat)(h:k<a.mv.length):(onA a).take (k+1)=(onA a).take k++[a.mv[k].on]:=by rw[zV (by simpa[onA]using h)];simp[onA]
theorem Z8(a:Aut):(onA a).length=a.mv.length:=by simp[onA]
theorem X1:∀(xs:List (List Int)) (Q:List (List Int)),(Ea Q xs).length≤Q.length+xs.length
 |[],Q=>by simp[Ea]
 |x::xs,Q=>by
  have h:=X1 xs (H5 Q x);have e:Ea Q (x::xs)=Ea (H5 Q x) xs:=rfl;have h2:(H5 Q x).length≤Q.length+1:=by unfold H5;split<;>simp
  rw[e,yW];omega
theorem w0h{a:Aut}(z1:OkA a){Q:List (List Int)}(hQ:∀l∈Q,Af l)(z8:Q.length≤256){cl:List Prd}(za:cl.length≤256){l:List Int}(k:Nat):
  (∀y∈Ea Q ((Ta a cl l).take k),Af y)∧(Ea Q ((Ta a cl l).take k)).length≤600:=by
 have hlen:=X1 ((Ta a cl l).take k) Q;have z6:(Ta a cl l).length=cl.length:=by simp[Ta]
 rw[ww,z6]at hlen;refine⟨fun y hy=> ?_,by omega⟩;obtain⟨R,hR,z7⟩:=Y3 ((Ta a cl l).take k) Q;rw[hR]at hy;rcases zU.1 hy with hy|hy
 ·exact hQ y hy
 ·obtain⟨h1,h2⟩:=z7 y hy;obtain⟨c,_,rfl⟩:=zT.1 (x_ h1);have:=z1.fin;exact⟨h2,Lm z1 _ _,fun z hz=>by have:=Oc z hz;omega⟩
theorem Kv(Q xs:List (List Int))(x:List Int):Ea Q (xs++[x])=H5 (Ea Q xs) x:=by unfold Ea;rw[wp];rfl
theorem k09{Q:List (List Int)}{x:List Int}(h:x≠[]):H5 Q x=v0p Q x:=by
 unfold H5 v0p;by_cases hx:x∈Q
 ·rw[if_pos (.inr hx),if_pos hx]
 ·rw[if_neg (by simp[h,hx]),if_neg hx]
theorem y1d(Q:List (List Int)):H5 Q []=Q:=by unfold H5;simp
attribute [local irreducible] Wa Qm R0 onA mpT Rv
theorem w0y(H:List AObj)(a:Aut):FC Tryz.prog 50 [encA a] H (fun res H'=>(∀j,j<H.length→H'[j]? =H[j]?)∧(((Oz a).1≠0∧res= .tup [.nilp,.i (Oz a).1])∨
  ((Oz a).1=0∧∃r p m,res= .tup [.vptr r 0,.i 0]∧TB r p m a (Oz a).2.1 (Oz a).2.2 H'∧H.length≤r∧H.length≤p∧H.length≤m))):=by
 refine Wy tOk Tryz.func50 rfl Tryz.results50 rfl (by simp[Tryz.ntmps50]) ?_;rw[Tryz.ntmps50];simp only[Qg];simp only[encA];repeat first|(refine r_ ?_;simp)|refine q_ ?_
 have b0:∀L,(H++[AObj.vars (Q7 a)]++L)[H.length]? =some (.vars (Q7 a)):=fun L=>by rw[xP,zK (by omega)];simp
 refine Qe rfl rfl (by simp) (Y4 a) rfl ?_;rintro _ rfl;simp;repeat first|(refine r_ ?_;simp)|refine q_ ?_
 refine Qb rfl (fun h=> ?_) (fun h=> ?_)
 ·have h':Wk a≠0:=by simpa using h
  have hs:Oz a=(Wk a,[],[]):=Mb h';rw[hs];repeat first|(refine r_ ?_;simp)|refine q_ ?_
  exact⟨fun j hj=>zF hj,h'⟩
 have h0:Wk a=0:=by simpa using h
 have z7:=(U4 a).1 h0;have ym:=z7.fin;have yn:=z7.mvs;repeat first|(refine r_ ?_;simp)|refine q_ ?_
 refine Wt 5 76 1 rfl ?_;simp;obtain⟨G0,zg⟩:∃G0,G0=H++[AObj.vars (Q7 a)]:=⟨_,rfl⟩
 have y4:G0[H.length]? =some (.vars (Q7 a)):=by rw[zg];simp
 have zh:G0.length=H.length+1:=by rw[zg];simp
 have y5:∀j,j<H.length→G0[j]? =H[j]? :=fun j hj=>by rw[zg];exact zF hj
 have y6:=SL.start G0 76 1;refine Qo (Qc (sl':=[(1,.vptr H.length 0),(5,.sl G0.length 1 0 (0:Nat)),(20,.list (a.mv.map encMv)),(21,.i a.mv.length),(22,.i (0:Nat))]) ?_ (by simp[zh]));refine Qn (F:=fun(u:Nat×Nat×List AObj)=>⟨[(1,.vptr H.length 0),(5,.sl u.2.1 1 0 u.1),(20,.list (a.mv.map encMv)),(21,.i a.mv.length),(22,.i u.1)],u.2.2⟩)
  (fun u=>u.1≤a.mv.length∧SL G0 u.2.2 u.2.1 76 1 (((onA a).take u.1).map encP)) (fun u=>a.mv.length - u.1) ?_ (0,G0.length,_) ⟨by simp,by simp only[List.take_zero,List.map_nil];rw[zg]at y6 ⊢;simpa using y6⟩
 rintro⟨j,q,E⟩ ⟨hj,s1⟩ ih;simp only at hj s1 ih ⊢;repeat first|(refine r_ ?_;simp)|refine q_ ?_
 refine Qb rfl (fun zq=> ?_) (fun zr=> ?_)
 ·have z1:j<a.mv.length:=by simpa using zq
  have hw:IntKind.i64.wrap ((j:Int)+1)=j+1:=wrap_i64 _ (by omega) (by omega);have za:=z1x a j z1;have y7:((onA a).take j).length=j:=by rw[ww,Z8];omega
  have y8:=fun q' E'=>ih (j+1,q',E');simp only[za]at y8;clear za;generalize (onA a).take j=acc at *
  repeat first|(refine r_ ?_;simp[z1])|refine q_ ?_
  generalize a.mv[j]=mm at *;refine Qi tOk rfl rfl T91 rfl T76 rfl (by decide) (by decide) rfl rfl rfl ?_
  simp[Qa s1.arr,Ql s1.arr,y7];refine⟨by simp[W8,Qa s1.arr,Ql s1.arr,y7]<;>omega,?_⟩;repeat first|(refine r_ ?_;simp[hw])|refine q_ ?_
  refine Qc (sl':=[(1,.vptr H.length 0),(5,.sl (E.length+2) 1 0 (j+1)),(20,.list (a.mv.map encMv)),(21,.i a.mv.length),(22,.i (j+1:Nat))]) ?_ (by simp);have:=y8 (E.length+2) _ ⟨by omega,s1.put [AObj.vars [AV.i mm.src,AV.i mm.dst,AV.list (mm.on.map encL)],AObj.arr 76 1 [encP mm.on]] ((acc++[mm.on]).map encP) rfl⟩ (by omega);simpa using this
 ·have zi:j=a.mv.length:=by simp at zr;omega
  subst zi;rw[zY (by rw[Z8];omega)]at s1;refine Ws q s1.arr ?_;simp[Z8];rw[zY (by simp[Z8])];have yo:=s1.ge;have yp:=s1.le;have zj:(E.set q .dead)[H.length]? =some (.vars (Q7 a)):=by rw[zE (by omega),s1.keep _ (by omega)];exact y4
  have zu:∀i,i<H.length→(E.set q .dead)[i]? =H[i]? :=fun i hi=>by rw[zE (by omega),s1.keep _ (by omega)];exact y5 i hi
  have y9:H.length<(E.set q .dead).length:=Qf zj;generalize E.set q .dead=E1 at *;clear s1 yp yo ih
  repeat first|(refine r_ ?_;simp[zj])|refine q_ ?_
  refine Qe rfl rfl (by simp) (Bp a.types (onA a)) rfl ?_;rintro _ rfl;simp;repeat first|(refine r_ ?_;simp)|refine q_ ?_
  refine Qb rfl (fun h3=> ?_) (fun h3=> ?_)
  ·have zm:(R0 a.types (onA a)).1≠0:=by simpa using h3
   have hs:Oz a=((R0 a.types (onA a)).1,[],[]):=by rw[Oz,if_neg (fun k=>k h0),if_pos zm]
   rw[hs];repeat first|(refine r_ ?_;simp)|refine q_ ?_
   exact⟨zu,zm⟩
  have zm:(R0 a.types (onA a)).1=0:=by simpa using h3
  obtain⟨cl,ya,yq,zc,zv⟩:=Xt z7 zm;rw[ya];repeat first|(refine r_ ?_;simp[zj])|refine q_ ?_
  refine Ec rfl rfl rfl ?_;simp;repeat first|(refine r_ ?_;simp)|refine q_ ?_
  refine Rz (E1.length+3) (e:=3) (c:=1) (xs:=[.i 0]) (by rw[zK (by omega)];simp) ?_;simp;refine Zr (E1.length+1) 4 40 1 (xs:=[.i a.types,.list (a.fin.map .bool),.list (a.mv.map encMv),LP cl,.nils,.mref E1.length]) (by rw[zK (by omega)];simp) rfl ?_;refine Ga fun Z hZ=> ?_;have yr:Z.length=E1.length+5:=by rw[hZ];simp
  have z0:Z[H.length]? =some (.vars (Q7 a)):=by rw[hZ,zE (by omega),xP,zF y9];exact zj
  have zk:∀i,i<H.length→Z[i]? =H[i]? :=fun i hi=>by rw[hZ,zE (by omega),xP,zF (by omega)];exact zu i hi
  have zt:TB (E1.length+1) (E1.length+4) E1.length a cl [] Z:=by
   refine⟨?_,?_,?_⟩
   ·rw[hZ,zO (by simp)];simp
   ·rw[hZ,zE (by omega),zK (by simp)];simp[LQ]
   ·rw[hZ,zE (by omega),xP,zK (by omega)];simp[E0]
  have zb:Z[E1.length+2]? =some (.vars [.vptr (E1.length+1) 0]):=by rw[hZ,zE (by omega),xP,zK (by omega)];simp
  clear hZ;have yc:Af [0]:=⟨by simp,by simp,fun z hz=>by simp at hz;omega⟩
  refine Q4 rfl rfl (Nw Z _ _ _ a cl [] [0] zt yc (fun l hl=>by simp at hl) (by simp)) rfl ?_;rintro res Y ⟨j0,p,rfl,yd,ht,yt,yu,-,zn⟩;have zw:v0p [] [0]=[[0]]:=by simp[v0p]
  rw[zw]at ht;simp;repeat first|(refine r_ ?_;simp)|refine q_ ?_
  have y0:=(zn H.length (by omega) (by omega) (by omega) (by omega)).trans z0;have yk:∀i,i<H.length→Y[i]? =H[i]? :=fun i hi=>(zn i (by omega) (by omega) (by omega) (by omega)).trans (zk i hi);have yb:=(zn _ (by omega) (by omega) (by omega) (by omega)).trans zb;have ze:H.length≤p:=by omega
  have yv:H.length≤E1.length+1:=by omega
  have xh:H.length≤E1.length+2:=by omega
  have yw:H.length≤E1.length:=by omega
  refine Q6 (sl':=[(10,.vptr (E1.length+2) 0),(11,.i (0:Nat))]) ?_ (by simp);clear zt z0 zk zb zn yr yu yd yt zj zu y9 y4 zh y5 zg;generalize E1.length+1=r at *;generalize E1.length+2=b at *;generalize E1.length=m at *
  have z6:Oz a=match y0y a cl 257 0 [[0]]with
    |none=>(5,[],[])
    |some Q=>(0,cl,Q):=by
   rw[Oz,if_neg (fun k=>k h0),ya];rfl
  refine Qo (Qc (sl':=[(10,.vptr b 0),(11,.i (0:Nat))]) ?_ (by simp));refine Qn (F:=fun(u:Nat×Nat×List (List Int)×List AObj)=>⟨[(10,.vptr b 0),(11,.i u.1)],u.2.2.2⟩)
   (fun u=>u.1≤u.2.2.1.length∧u.2.2.1.length≤256∧TB r u.2.1 m a cl u.2.2.1 u.2.2.2∧H.length≤u.2.1∧u.2.2.2[b]? =some (.vars [.vptr r 0])∧(∀i,i<H.length→u.2.2.2[i]? =H[i]?)∧(∀l∈u.2.2.1,Af l)∧y0y a cl 257 0 [[0]]=y0y a cl (257 - u.1) u.1 u.2.2.1) (fun u=>257 - u.1) ?_ (0,p,[[0]],Y) ⟨by simp,by simp,ht,ze,yb,yk,fun l hl=>by rw[zP.1 hl];exact yc,rfl⟩
  clear ht ze yb yk y0;clear Y;rintro⟨i,p,Q,Y⟩ ⟨hi,zx,ht,ze,yb,yk,hQ,z8⟩ ih;simp only at hi zx ht ze yb yk hQ z8 ih ⊢;have ye:=ht.t;repeat first|(refine r_ ?_;simp[yb,ye])|refine q_ ?_
  refine Qb rfl (fun zq=> ?_) (fun zr=> ?_)
  ·have z1:i<Q.length:=by simpa using zq
   have hw:IntKind.i64.wrap ((i:Int)+1)=i+1:=wrap_i64 _ (by omega) (by omega);have yx:=ht.s;have hlo:=hQ _ (zL z1);repeat first|(refine r_ ?_;simp)|refine q_ ?_
   refine Qs tOk mixed [8] (.val 0 (.val 1 (.val 2 (.val 3 (.val 4 (.val 5 (.val 6 (.val 7 (.one 8 (.done)))))))))) rfl (by kernel_rfl) ?_;simp[yb,ye,yx,z1];refine Q4 rfl rfl (A4 Y r Q[i]) rfl ?_;rintro _ _ ⟨rfl,rfl⟩;simp;repeat first|(refine r_ ?_;simp)|refine q_ ?_
   have zo:y0y a cl (257 - i) i Q=if 256<(Ea Q (Ta a cl Q[i])).length then none else y0y a cl (257 - (i+1)) (i+1) (Ea Q (Ta a cl Q[i])):=by
    have:257 - i=(257 - (i+1))+1:=by omega
    rw[this,y0y,zJ z1]
   rw[zo]at z8;clear zo;generalize Q[i]=l at *
   have yy:(Ta a cl l).length=cl.length:=by simp[Ta]
   have yf:∀(k:Nat) (c:Prd),cl[k]? =some c→(Ta a cl l).take (k+1)=(Ta a cl l).take k++[Wa a l (Qm c)]:=fun k c hc=>by
    have hk:=Uj hc;have yz:cl[k]=c:=by rw[zJ hk]at hc;exact Option.some.inj hc
    rw[zV (by rw[yy];exact hk)];simp[Ta,yz]
   have x0:∀k,(∀y∈Ea Q ((Ta a cl l).take k),Af y)∧(Ea Q ((Ta a cl l).take k)).length≤600:=fun k=>w0h z7 hQ zx zc k;have x1:=Qf yb;refine Ed rfl (Rf:=fun _ H'=>∃p',TB r p' m a cl (Ea Q (Ta a cl l)) H'∧H.length≤p'∧H'[b]? =some (.vars [.vptr r 0])∧(∃sl' zy a' b',H'[Y.length+2]? =some (.lp true none 80 sl' zy a' b'))∧∀i,i<H.length→H'[i]? =H[i]?) ?_ ?_
   ·simp;refine Du fun H1 zd=> ?_;have ft:TB r p m a cl Q H1:=ht.keep fun j hj=>by
     have:j<Y.length:=by
      rcases hj with rfl|rfl|rfl
      ·exact Qf ht.t
      ·exact Qf ht.s
      ·exact Qf ht.n
     rw[zd,zF this]
    have fb:H1[b]? =some (.vars [.vptr r 0]):=by rw[zd,zF x1];exact yb
    have x2:H1[Y.length]? =some (.vars [.vptr r 0]):=by rw[zd,zK (by omega)];simp
    have x3:H1[Y.length+1]? =some (.vars [LI l]):=by rw[zd,zK (by omega)];simp
    have fk:∀i,i<H.length→H1[i]? =H[i]? :=fun i hi=>by rw[zd,zF (by have:=Qf ht.t;omega)];exact yk i hi
    have fq:=congrArg (fun h:List AObj=>h[Y.length+2]?) zd;simp at fq;clear zd;refine FC.mono (q08 a z7 cl l (fun c hc=>⟨(zv c hc).1,(zv c hc).2.1,(zv c hc).2.2.1⟩) zc (Y.length+2) Y.length (Y.length+1) r (by rfl) (by rfl)
     (fun k H'=>∃p',TB r p' m a cl (Ea Q ((Ta a cl l).take k)) H'∧H.length≤p'∧H'[b]? =some (.vars [.vptr r 0])∧H'[Y.length]? =some (.vars [.vptr r 0])∧H'[Y.length+1]? =some (.vars [LI l])∧H'[Y.length+2]? =H1[Y.length+2]? ∧∀i,i<H.length→H'[i]? =H[i]?)
     (fun k H' ⟨p',h1,h2,h3,h4,h5,h6,h7⟩=>⟨h6.trans fq,h4,h5,_,h1.t⟩) ?_ ?_ ?_ H1 ⟨p,ft,ze,fb,x2,x3,rfl,fk⟩) ?_
    ·rintro k H' L ⟨p',h1,h2,h3,h4,h5,h6,h7⟩;refine⟨p',h1.keep fun j hj=> ?_,h2,Qa h3 _,Qa h4 _,Qa h5 _,by rw[←h6,zF (by rw[fq]at h6;exact Qf h6)],fun i hi=>by rw[zF (by have:=Qf h1.t;omega)];exact h7 i hi⟩;have:j<H'.length:=by
      rcases hj with rfl|rfl|rfl
      ·exact Qf h1.t
      ·exact Qf h1.s
      ·exact Qf h1.n
     exact zF this
    ·rintro k c H' hc za ⟨p',h1,h⟩;refine⟨p',?_,h⟩;rw[yf k c hc,za,Kv,y1d];exact h1
    ·rintro k c H' hc za ⟨p',h1,h2,h3,h4,h5,h6,h7⟩;have zz:Af (Wa a l (Qm c)):=by have:=z7.fin;exact⟨za,Lm z7 _ _,fun z hz=>by have:=Oc z hz;omega⟩
     have y1:=yf k c hc;have zl:=x0 k;rw[y1,Kv,k09 za];generalize Wa a l (Qm c)=nx at *;generalize Ea Q ((Ta a cl l).take k)=Q2 at *
     simp[Rk];have h8:=h6.trans fq;have yg:Y.length+2≠r:=fun e=>by have:=h1.t;rw[←e,h8]at this;simp at this
     have yh:Y.length+2≠p':=fun e=>by have:=h1.s;rw[←e,h8]at this;simp at this
     have yi:Y.length+2≠m:=fun e=>by have:=h1.n;rw[←e,h8,E0]at this;simp at this
     have zp:Y.length+2≠b:=fun e=>by rw[←e,h8]at h3;simp at h3
     have x4:b≠r:=fun e=>by have:=h1.t;rw[←e,h3]at this;simp at this
     have x5:b≠p':=fun e=>by have:=h1.s;rw[←e,h3]at this;simp at this
     have x6:b≠m:=fun e=>by have:=h1.n;rw[←e,h3,E0]at this;simp at this
     have x7:Y.length≠r:=fun e=>by have:=h1.t;rw[←e,h4]at this;simp at this
     have x8:Y.length≠p':=fun e=>by have:=h1.s;rw[←e,h4]at this;simp at this
     have x9:Y.length≠m:=fun e=>by have:=h1.n;rw[←e,h4,E0]at this;simp at this
     have xa:Y.length+1≠r:=fun e=>by have:=h1.t;rw[←e,h5]at this;simp at this
     have xb:Y.length+1≠p':=fun e=>by have:=h1.s;rw[←e,h5]at this;simp at this
     have xc:Y.length+1≠m:=fun e=>by have:=h1.n;rw[←e,h5,E0]at this;simp at this
     have d1:TB r p' m a cl Q2 (H'.set (Y.length+2) .dead):=h1.keep fun j hj=>by rw[zE (by rcases hj with rfl|rfl|rfl<;>assumption)]
     have d3:=Qd zp h3 .dead;have d4:=Qd (j:=Y.length+2) (by omega) h4 .dead;have d5:=Qd (j:=Y.length+2) (by omega) h5 .dead;have d6:=Qh h8 .dead;have d7:∀i,i<H.length→(H'.set (Y.length+2) .dead)[i]? =H[i]? :=fun i hi=>by rw[zE (by have:=Qf yb;omega)];exact h7 i hi
     have dl:(H'.set (Y.length+2) .dead).length=H'.length:=by simp
     generalize H'.set (Y.length+2) .dead=Z at *
     repeat first|(refine r_ ?_;simp[d3])|refine q_ ?_
     refine Q4 rfl rfl (Nw Z r p' m a cl Q2 nx d1 zz zl.1 (by have:=zl.2;omega)) rfl ?_;rintro res Z2 ⟨j0,p2,rfl,yd,yj,xi,xj,-,zf⟩;simp;repeat first|(refine r_ ?_;simp)|refine q_ ?_
     have hz:∀i,i<Z.length→i≠r→i≠p'→i≠m→Z2[i]? =Z[i]? :=zf;have e3:=(zf b (Qf d3) x4 x5 x6).trans d3;have e4:=(zf _ (Qf d4) x7 x8 x9).trans d4;have e5:=(zf _ (Qf d5) xa xb xc).trans d5;have e6:=(zf _ (Qf d6) yg yh yi).trans d6;have xd:Y.length+2≠p2:=fun e=>by have:=yj.s;rw[←e,e6]at this;simp at this
     refine⟨e6,rfl,p2,yj.keep (fun j hj=>by rw[zE (by rcases hj with rfl|rfl|rfl<;>assumption)]),by have:=Qf d6;omega,Qd zp e3 _,e4,e5,?_,fun i hi=> ?_⟩
     ·rw[fq];exact Qh e6 _
     ·rw[zE (by have:=Qf yb;omega),zf i (by have:=Qf d6;omega) (by omega) (by omega) (by omega)];exact d7 i hi
    ·rintro _ H' ⟨p',h1,h2,h3,h4,h5,h6,h7⟩;rw[zY (by omega)]at h1;exact⟨p',h1,h2,h3,⟨_,_,_,_,h6.trans fq⟩,h7⟩
   ·rintro res H' ⟨p',h1,h2,h3,⟨sl',zy,a',b',h6⟩,h7⟩;refine⟨true,none,80,sl',zy,a',b',by simpa using h6,?_⟩;simp;have yg:Y.length+2≠r:=fun e=>by have:=h1.t;rw[←e,h6]at this;simp at this
    have yh:Y.length+2≠p':=fun e=>by have:=h1.s;rw[←e,h6]at this;simp at this
    have yi:Y.length+2≠m:=fun e=>by have:=h1.n;rw[←e,h6,E0]at this;simp at this
    have zp:Y.length+2≠b:=fun e=>by rw[←e,h6]at h3;simp at h3
    have d1:TB r p' m a cl (Ea Q (Ta a cl l)) (H'.set (Y.length+2) .dead):=h1.keep fun j hj=>by rw[zE (by rcases hj with rfl|rfl|rfl<;>assumption)]
    have d3:=Qd zp h3 .dead;have d7:∀i,i<H.length→(H'.set (Y.length+2) .dead)[i]? =H[i]? :=fun i hi=>by rw[zE (by have:=Qf yb;omega)];exact h7 i hi
    have yl:=w0h z7 hQ zx zc (l:=l) cl.length;rw[zY (by omega)]at yl;have xe:=w07 Q (Ta a cl l);generalize H'.set (Y.length+2) .dead=Z at *;generalize Ea Q (Ta a cl l)=Q2 at *
    have d0:=d1.t;repeat first|(refine r_ ?_;simp[d3,d0])|refine q_ ?_
    refine Qb rfl (fun y2=> ?_) (fun xf=> ?_)
    ·have xg:256<Q2.length:=by simp at y2;omega
     rw[if_pos xg]at z8;rw[z8]at z6;rw[z6];repeat first|(refine r_ ?_;simp)|refine q_ ?_
     exact d7
    ·have y3:¬256<Q2.length:=by simp at xf;omega
     rw[if_neg y3]at z8;repeat first|(refine r_ ?_;simp[hw])|refine q_ ?_
     refine Qc (sl':=[(10,.vptr b 0),(11,.i (i+1:Nat))]) ?_ (by simp);exact ih (i+1,p',Q2,Z) ⟨by show i+1≤Q2.length;omega,by show Q2.length≤256;omega,d1,h2,d3,d7,yl.1,z8⟩ (by omega)
  ·have zi:i=Q.length:=by simp at zr;omega
   have zo:y0y a cl (257 - i) i Q=some Q:=by
    have:257 - i=(256 - i)+1:=by omega
    rw[this,y0y,xA (by omega)]
   rw[zo]at z8;rw[z8]at z6;rw[z6];repeat first|(refine r_ ?_;simp[yb])|refine q_ ?_
   exact⟨yk,p,m,ht,yv,ze,yw⟩
end Go.Abs
namespace Go.Abs
open Go Go.Proofs Go.Maps Go.RowKit
attribute [local irreducible] Oz
end Go.Abs
namespace Go.Abs
open Go Go.Proofs Go.Maps Go.RowKit
def Fx(fx:List (Nat×AObj))(H:List AObj):Prop:=∀p∈fx,H[p.1]? =some p.2
theorem Fx.app{fx:List (Nat×AObj)}{H:List AObj}(h:Fx fx H)(L:List AObj):Fx fx (H++L):=fun p hp=>Qa (h p hp) L
theorem Fx.set{fx:List (Nat×AObj)}{H:List AObj}(h:Fx fx H){x:Nat}{o:AObj}(hx:H[x]? =some o)(hn:∀p∈fx,p.2≠o)(y:AObj):Fx fx (H.set x y):=fun p hp=>by
 have z1:x≠p.1:=fun e=>by have:=h p hp;rw[←e,hx]at this;exact hn p hp (Option.some.inj this).symm
 rw[zE z1];exact h p hp
def f04(g:List Mv)(to:Nat):Int:=match g.findIdx? fun m:Mv=>decide (m.dst=(to:Int))with
 |some i=>i
 |none=> -1
theorem u18(H:List AObj)(id to:Nat)(hid:H[id]? =some (.vars [.i to]))(m:Mv):FC Tryz.prog 59 [encMv m,.vptr id 0] H (fun r H'=>r= .bool (decide (m.dst=(to:Int)))∧H'=H++[.vars [.i m.src,.i m.dst,.list (m.on.map encL)]]):=by
 refine Wy tOk Tryz.func59 rfl Tryz.results59 rfl (by simp[Tryz.ntmps59]) ?_;rw[Tryz.ntmps59];simp only[Qg];simp only[encMv];repeat first|(refine r_ ?_;simp[Qa hid])|refine q_ ?_
 rfl
theorem y1n{g:List Mv}{to j:Nat}(h:j<g.length)(h1:g[j].dst=(to:Int))(h2:∀i,∀hi:i<g.length,i<j→¬g[i].dst=(to:Int)):f04 g to=j:=by
 have:g.findIdx? (fun m:Mv=>decide (m.dst=(to:Int)))=some j:=by rw[xF];exact⟨h,by simpa using h1,fun i hi=>by simpa using h2 i (by omega) hi⟩
 rw[f04,this]
theorem j0z{g:List Mv}{to:Nat}(h2:∀i,∀hi:i<g.length,¬g[i].dst=(to:Int)):f04 g to= -1:=by
 have:g.findIdx? (fun m:Mv=>decide (m.dst=(to:Int)))=none:=by rw[wV];intro m hm;obtain⟨i,hi,rfl⟩:=xB hm;simpa using h2 i hi
 rw[f04,this]
theorem k0b(H:List AObj)(v first to id:Nat)(pre g:List Mv)(hid:H[id]? =some (.vars [.i to]))(hv:H[v]? =some (.arr 78 3 ((pre++g).map encMv)))(hl:pre.length+g.length≤1000000000)(hf:first=pre.length):
  FC Tryz.prog 58 [.sl v 3 first g.length,.fn (.func 59) [] [.vptr id 0]] H (fun r H'=>r= .i (f04 g to)∧∃L,H'=H++L):=by
 subst hf;refine Wy tOk Tryz.func58 rfl Tryz.results58 rfl (by simp[Tryz.ntmps58]) ?_;rw[Tryz.ntmps58];simp only[Qg];repeat first|(refine r_ ?_;simp)|refine q_ ?_
 refine Qo (Qc (sl':=[(0,.sl v 3 pre.length g.length),(1,.fn (.func 59) [] [.vptr id 0]),(7,.i g.length),(8,.i (0:Nat))]) ?_ (by simp));refine Qn (F:=fun(u:Nat×List AObj)=>⟨[(0,.sl v 3 pre.length g.length),(1,.fn (.func 59) [] [.vptr id 0]),(7,.i g.length),(8,.i u.1)],u.2⟩)
  (fun u=>u.1≤g.length∧(∃L,u.2=H++L)∧∀i,∀hi:i<g.length,i<u.1→¬g[i].dst=(to:Int)) (fun u=>g.length - u.1) ?_ (0,H) ⟨by simp,⟨[],by simp⟩,by simp⟩
 rintro⟨j,E⟩ ⟨hj,⟨L,hL⟩,hI⟩ ih;simp only at hj hI hL ih ⊢;subst hL;repeat first|(refine r_ ?_;simp)|refine q_ ?_
 refine Qb rfl (fun za=> ?_) (fun zb=> ?_)
 ·have z1:j<g.length:=by simpa using za
  have hw:IntKind.i64.wrap ((j:Int)+1)=j+1:=wrap_i64 _ (by omega) (by omega);have zc:((pre++g).map encMv)[pre.length+j]? =some (encMv g[j]):=by simp[z1]
  have zd:=Qa hv L;have z6:=Qa hid L;repeat first|(refine r_ ?_;simp[z1,zd,zc])|refine q_ ?_
  generalize z8:g[j]=m at *;refine Q4 rfl rfl (u18 (H++L) id to z6 m) rfl ?_
  rintro _ _ ⟨rfl,rfl⟩;simp;repeat first|(refine r_ ?_;simp)|refine q_ ?_
  refine Qb rfl (fun h=> ?_) (fun h=> ?_)
  ·repeat first|(refine r_ ?_;simp)|refine q_ ?_
   exact(y1n z1 (by rw[z8];simpa using h) hI).symm
  ·repeat first|(refine r_ ?_;simp[hw])|refine q_ ?_
   refine Qc (sl':=[(0,.sl v 3 pre.length g.length),(1,.fn (.func 59) [] [.vptr id 0]),(7,.i g.length),(8,.i (j+1:Nat))]) ?_ (by simp);refine ih (j+1,_) ⟨by omega,⟨L++[.vars [.i m.src,.i m.dst,.list (m.on.map encL)]],by simp⟩,fun i hi ze=> ?_⟩ (by omega);by_cases e:i=j
   ·subst e;rw[z8];simpa using h
   ·exact hI i hi (by omega)
 ·have z7:j=g.length:=by simp at zb;omega
  subst z7;repeat first|(refine r_ ?_;simp)|refine q_ ?_
  exact(j0z fun i hi=>hI i hi hi).symm
end Go.Abs
namespace Go.Abs
open Go Go.Proofs Go.Maps Go.RowKit
theorem Vg{a:Aut}(h:(Oz a).1=0):OkA a∧∃cl Q,Oz a=(0,cl,Q)∧Zn a cl=some Q∧Cls a cl∧Sub a cl Q∧cl.length≤256∧∀c∈cl,H6 [c]=0∧Wp c=false∧Wv a (Qm c)∧PWf a.types.toNat c∧∀s∈c,s.length≤256:=by
 have h0:Wk a=0:=by
  by_cases h0:Wk a=0
  ·exact h0
  ·rw[Mb h0]at h;exact absurd h h0
 have z1:=(U4 a).1 h0;have hm:(R0 a.types (onA a)).1=0:=by
  by_cases hm:(R0 a.types (onA a)).1=0
  ·exact hm
  ·rw[Oz,if_neg (fun k=>k h0),if_pos hm]at h;exact absurd h hm
 obtain⟨cl,h1,h2,h3,h4⟩:=Xt z1 hm;refine⟨z1,cl,?_⟩;rcases Gi z1 with h5|⟨Q,h5,h6,h7,h8⟩
 ·rw[h5]at h;simp at h
 ·have z6:Q9 a.types.toNat (onA a)=cl:=by
   have h9:(Oz a).2.1=cl:=by
    rw[Oz,if_neg (fun k=>k h0),if_neg (fun k=>k hm),h1];split
    ·rename_i hn;rw[Oz,if_neg (fun k=>k h0),if_neg (fun k=>k hm),h1]at h;simp only[hn]at h;simp at h
    ·rfl
   rw[h5]at h9;exact h9
  rw[z6]at h5 h6 h7 h8;exact⟨Q,h5,h6,h2,h7,h3,h4⟩
theorem u1k(H:List AObj)(id:Nat)(a:Aut)(hid:H[id]? =some (.vars (Q7 a)))(s:Int)(h0:0≤s)(h1:s<a.fin.length):FC Tryz.prog 55 [.i s,.vptr id 0] H (fun r H'=>r= .bool (a.fin.getD s.toNat false)∧H'=H):=by
 refine Wy tOk Tryz.func55 rfl Tryz.results55 rfl (by simp[Tryz.ntmps55]) ?_;rw[Tryz.ntmps55];simp only[Qg];have h2:s.toNat<a.fin.length:=by omega
 repeat first|(refine r_ ?_;simp[hid,h0,h1,h2])|refine q_ ?_
def stepG(a:Aut)(Q:List (List Int))(n:Nat)(l:List Int)(g:List Mv)(c:Prd):List Mv:=match v0o Q (Wa a l (Qm c))with|some t=>Ts n g t c|none=>g
def E2(a:Aut)(cl:List Prd)(Q:List (List Int))(n:Nat)(l:List Int)(k:Nat):List Mv:=(cl.take k).foldl (stepG a Q n l) []
def Dv(a:Aut)(cl:List Prd)(Q:List (List Int))(n:Nat):List Mv:=(yL n).flatMap fun n=>X7 a cl Q n (Q.getD n [])
theorem F1(a:Aut)(cl:List Prd)(Q:List (List Int))(n:Nat)(l:List Int):E2 a cl Q n l cl.length=X7 a cl Q n l:=by rw[E2,y_];rfl
theorem Br(a:Aut)(cl:List Prd)(Q:List (List Int))(n:Nat)(l:List Int){k:Nat}{c:Prd}(h:cl[k]? =some c):E2 a cl Q n l (k+1)=stepG a Q n l (E2 a cl Q n l k) c:=by
 have hk:=Uj h;have hc:cl[k]=c:=by rw[zJ hk]at h;exact Option.some.inj h
 rw[E2,zV hk,wp,hc];rfl
theorem Ch(a:Aut)(cl:List Prd)(Q:List (List Int))(n:Nat):Dv a cl Q (n+1)=Dv a cl Q n++X7 a cl Q n (Q.getD n []):=by simp[Dv,wH]
theorem g0p(n:Nat)(g:List Mv)(to:Nat)(c:Prd):(Ts n g to c).length≤g.length+1:=by
 unfold Ts;split
 ·simp
 ·split<;>simp
theorem C1(a:Aut)(Q:List (List Int))(n:Nat)(l:List Int):∀(cl:List Prd) (g:List Mv),(cl.foldl (stepG a Q n l) g).length≤g.length+cl.length
 |[],g=>by simp
 |c::cl,g=>by
  have h1:=C1 a Q n l cl (stepG a Q n l g c);have h2:(stepG a Q n l g c).length≤g.length+1:=by
   unfold stepG;split
   ·exact g0p _ _ _ _
   ·omega
  rw[xV,yW];omega
theorem Hg(a:Aut)(cl:List Prd)(Q:List (List Int))(n:Nat)(l:List Int)(hc:cl.length≤256)(k:Nat):(E2 a cl Q n l k).length≤256:=by have:=C1 a Q n l (cl.take k) [];rw[ww]at this;rw[E2];simp at this;omega
theorem z1r(a:Aut)(cl:List Prd)(Q:List (List Int))(hq:Q.length≤256)(hc:cl.length≤256):∀n,n<Q.length→(Dv a cl Q n).length≤n * 256∧(Dv a cl Q n).length≤65536:=by
 have:∀n,(Dv a cl Q n).length≤n * 256:=fun n=>by
  induction n with
  |zero=>simp[Dv]
  |succ n ih=>
   have h:=Hg a cl Q n (Q.getD n []) hc cl.length;rw[F1]at h;have:Dv a cl Q (n+1)=Dv a cl Q n++X7 a cl Q n (Q.getD n []):=by simp[Dv,wH]
   rw[this,z_];omega
 exact fun n hn=>⟨this n,by have:=this n;omega⟩
theorem z0c(a:Aut)(cl:List Prd)(Q:List (List Int))(n:Nat)(l:List Int):E2 a cl Q n l 0=[]:=rfl
theorem z1e{a:Aut}{Q:List (List Int)}(z1:∀l∈Q,l≠[]){n:Nat}{l:List Int}{g:List Mv}{c:Prd}(h:Wa a l (Qm c)=[]):stepG a Q n l g c=g:=by
 unfold stepG;rw[h];cases hq:v0o Q []with
 |none=>rfl
 |some t=>exact absurd rfl (z1 _ (zH (Fy hq)))
theorem d0b{a:Aut}{Q:List (List Int)}(hn:Q.Nodup){n t:Nat}{l:List Int}{g:List Mv}{c:Prd}(h:Q[t]? =some (Wa a l (Qm c))):stepG a Q n l g c=Ts n g t c:=by unfold stepG;rw[k03 hn h]
theorem c0y{T n to:Nat}{g:List Mv}{c:Prd}(hg:∀m∈g,PWf T m.on)(hc:PWf T c):∀m∈Ts n g to c,PWf T m.on:=by
 intro m hm;unfold Ts at hm;split at hm
 ·rcases zU.1 hm with hm|hm
  ·exact hg m hm
  ·rw[zP.1 hm];exact hc
 ·split at hm
  ·rename_i m2 z1;rcases vF hm with hm|rfl
   ·exact hg m hm
   ·exact Gq (hg _ (zH z1)) hc
  ·exact hg m hm
theorem z1q{a:Aut}{T:Nat}{Q:List (List Int)}{n:Nat}{l:List Int}{cl:List Prd}(z1:∀c∈cl,PWf T c):∀k,∀m∈E2 a cl Q n l k,PWf T m.on:=by
 have:∀(cl:List Prd) (g:List Mv),(∀c∈cl,PWf T c)→(∀m∈g,PWf T m.on)→∀m∈cl.foldl (stepG a Q n l) g,PWf T m.on:=by
  intro cl;induction cl with
  |nil=>intro g _ hg;exact hg
  |cons c cl ih=>
   intro g hc hg;refine ih _ (fun x hx=>hc x (by simp[hx])) fun m hm=> ?_;unfold stepG at hm;split at hm
   ·exact c0y hg (hc c (by simp)) m hm
   ·exact hg m hm
 exact fun k=>this _ _ (fun c hc=>z1 c (x_ hc)) (fun m hm=>by simp at hm)
def AObj.isLp:AObj→Bool
 | .lp .. =>true
 |_=>false
theorem u1v{T:Nat}{c:Prd}(hw:PWf T c)(hz:∀s∈c,s.length≤256){i:Nat}(hi:i<T):(Qu [c] i).length≤1000000:=by
 have h:i<c.length:=by rw[hw.1];exact hi
 have:Qu [c] i=c[i]:=by simp[Qu,yS,h]
 rw[this];have:=hz _ (zL h);omega
theorem k1h{T:Nat}{p c:Prd}(hp:PWf T p)(hw:PWf T c)(h1:∀s∈p,s.length≤65536)(hz:∀s∈c,s.length≤256){i:Nat}(hi:i<T):(Qu [p,c] i).length≤1000000:=by
 have h:i<c.length:=by rw[hw.1];exact hi
 have h2:i<p.length:=by rw[hp.1];exact hi
 have:Qu [p,c] i=p[i]++c[i]:=by simp[Qu,yS,h,h2]
 rw[this,z_];have:=hz _ (zL h);have:=h1 _ (zL h2);omega
theorem w1r(a:Aut)(cl:List Prd)(Q:List (List Int)):Dv a cl Q Q.length=(Uf a cl Q).mv:=rfl
theorem Mo(a:Aut)(cl:List Prd)(Q:List (List Int)):(Uf a cl Q).fin=Q.map (Fj a):=rfl
theorem z0z(a:Aut)(cl:List Prd)(Q:List (List Int)):(Uf a cl Q).types=a.types:=rfl
theorem Mu(d:Aut):Ji d=if Vw d then(5,Uo)else(0,d):=rfl
theorem g0q(a:Aut)(cl:List Prd)(Q:List (List Int))(hq:Q.length≤256)(hc:cl.length≤256):(Dv a cl Q Q.length).length≤65536:=by
 have:∀n,(Dv a cl Q n).length≤n * 256:=fun n=>by
  induction n with
  |zero=>simp[Dv]
  |succ n ih=>have h:=Hg a cl Q n (Q.getD n []) hc cl.length;rw[F1]at h;rw[Ch,z_];omega
 have:=this Q.length;omega
theorem u0a{p c:Prd}{A B:Nat}(hp:∀s∈p,s.length≤A)(hc:∀s∈c,s.length≤B):∀s∈Rm p c,s.length≤A+B:=by intro s hs;obtain⟨i,hi,rfl⟩:=xB hs;simp only[Rm,List.length_zipWith]at hi;simp only[Rm,List.getElem_zipWith];refine Nat.le_trans (q0j _) ?_;rw[z_];have h1:=hp _ (zL (by omega:i<p.length));have h2:=hc _ (zL (by omega:i<c.length));omega
theorem z1a{a:Aut}{Q:List (List Int)}{n:Nat}{l:List Int}{cl:List Prd}(z6:∀c∈cl,∀s∈c,s.length≤256)(z8:cl.length≤256):∀k,∀m∈E2 a cl Q n l k,∀s∈m.on,s.length≤65536:=by
 have key:∀(cl:List Prd) (g:List Mv) (B:Nat),(∀c∈cl,∀s∈c,s.length≤256)→(∀m∈g,∀s∈m.on,s.length≤B)→∀m∈cl.foldl (stepG a Q n l) g,∀s∈m.on,s.length≤B+cl.length * 256:=by
  intro cl;induction cl with
  |nil=>intro g B _ hg m hm s hs;have:=hg m hm s hs;simp;omega
  |cons c cl ih=>
   intro g B hc hg m hm s hs;have h1:∀m∈stepG a Q n l g c,∀s∈m.on,s.length≤B+256:=by
    intro m hm s hs;have z1:=hc c (by simp);unfold stepG Ts at hm;split at hm
    ·split at hm
     ·rcases zU.1 hm with hm|hm
      ·have:=hg m hm s hs;omega
      ·rw[zP.1 hm]at hs;have:=z1 s hs;omega
     ·split at hm
      ·rename_i m2 z7;rcases vF hm with hm|rfl
       ·have:=hg m hm s hs;omega
       ·exact u0a (hg _ (zH z7)) z1 s hs
      ·have:=hg m hm s hs;omega
    ·have:=hg m hm s hs;omega
   have:=ih (stepG a Q n l g c) (B+256) (fun x hx=>hc x (by simp[hx])) h1 m hm s hs;rw[yW];omega
 intro k m hm s hs;have:=key (cl.take k) [] 0 (fun c hc=>z6 c (x_ hc)) (fun m hm=>by simp at hm) m hm s hs;rw[ww]at this;have:min k cl.length≤256:=by omega
 omega
theorem Xs(a:Aut)(cl:List Prd)(Q:List (List Int)):Dv a cl Q 0=[]:=rfl
attribute [local irreducible] Oz Wa Qm mpT Rv Ji Uf Dv E2 stepG Fj Vw
theorem Je(a:Aut):PC Tryz.prog 18 [encA a] (fun r=>r= .tup [encA (Ru a).2,.i (Ru a).1]):=by
 refine Qk tOk Tryz.func18 rfl Tryz.results18 rfl (by simp[Tryz.ntmps18]) ?_;rw[Tryz.ntmps18];simp only[Qg];simp only[encA];repeat first|(refine r_ ?_;simp)|refine q_ ?_
 have yd:=w0y [.vars (Q7 a),.vars [.i 0,.nils,.nils]] a;refine Q4 rfl rfl yd rfl ?_;rintro res H' ⟨hk,⟨he,rfl⟩|⟨he,r,p,m,rfl,ht,hr,hp,hm⟩⟩
 ·have hd:Ru a=((Oz a).1,Uo):=by rw[Ru,if_pos he]
  rw[hd];have k0:=hk 0 (by simp);have k1:=hk 1 (by simp);simp at k0 k1;simp;repeat first|(refine r_ ?_;simp[Qa k1])|refine q_ ?_
  refine Qb rfl (fun _=> ?_) (fun h=>by simp at h;exact absurd h he);have k2:∀L Y,((H'++L).set 1 Y)[1]? =some Y:=fun L Y=>Qh (Qa k1 L) Y;repeat first|(refine r_ ?_;simp[Qa k1,k2])|refine q_ ?_
  exact⟨rfl,rfl,rfl⟩
 ·obtain⟨zn,cl,Q,x6,vq,xx,z8,zd,zo⟩:=Vg he;have hd:Ru a=Ji (Uf a cl Q):=by rw[Ru,x6];simp
  rw[hd];rw[x6]at ht;simp only at ht;have k0:=hk 0 (by simp);have k1:=hk 1 (by simp);simp at k0 k1;have xy:=ht.t;have vr:=ht.s;simp;repeat first|(refine r_ ?_;simp[Qa k1])|refine q_ ?_
  refine Qb rfl (fun h=>by simp[he]at h) (fun _=> ?_);have k0a:∀(L:List AObj) hh,(H'++L)[0]'hh= .vars (Q7 a):=fun L hh=>by have:=Qa k0 L;rw[zJ hh]at this;exact Option.some.inj this
  have ye:=fun L=>Qa (G:=L) xy;repeat first|(refine r_ ?_;simp[Qa k0,k0a,ye])|refine q_ ?_
  have xz:=Qf ht.t;have w8:=Qf ht.s;have wa:=Qf ht.n;refine Q6 (sl':=[(1,.vptr 0 0),(2,.vptr 1 0),(3,.i 0),(4,.vptr H'.length 0),(6,.vptr (H'.length+1) 0),(30,.sl p 1 0 Q.length),(31,.i Q.length),(32,.i (0:Nat))]) ?_ (by simp);refine Rj (H'.length+1) 1 4 1 (xs:=[.i a.types,.nils,.nils]) (by rw[zK (by omega)];simp) rfl ?_;refine Wd fun Z1 zp=> ?_;have z1l:Z1.length=H'.length+3:=by rw[zp];simp
  have z1c:Z1[H'.length+1]? =some (.vars [.i a.types,.sl (H'.length+2) 1 0 0,.nils]):=by rw[zp,zO (by simp)];simp
  have z1f:Z1[H'.length+2]? =some (.arr 4 1 []):=by rw[zp,zE (by omega),zK (by simp)];simp
  have z1b:Z1[H'.length]? =some (.vars [.vptr r 0]):=by rw[zp,zE (by omega),xP,zK (by omega)];simp
  have z1k:∀i,i<H'.length→Z1[i]? =H'[i]? :=fun i hi=>by rw[zp,zE (by omega),xP,zF hi]
  clear zp;refine Rj (H'.length+1) 2 78 3 z1c rfl ?_;refine Wd fun Z2 y6=> ?_;have z2c:Z2[H'.length+1]? =some (.vars [.i a.types,.sl (H'.length+2) 1 0 0,.sl (H'.length+3) 3 0 0]):=by rw[y6,zO (by simp;omega)];simp[z1l]
  have z2v:Z2[H'.length+3]? =some (.arr 78 3 []):=by rw[y6,zE (by omega),zK (by omega)];simp[z1l]
  have z2k:∀i,i<Z1.length→i≠H'.length+1→Z2[i]? =Z1[i]? :=fun i hi wb=>by rw[y6,zE (Ne.symm wb),zF hi]
  clear y6;have hb:=(z2k _ (by omega) (by omega)).trans z1b;have x7:=(z2k _ (by omega) (by omega)).trans z1f;have hold:∀i,i<H'.length→Z2[i]? =H'[i]? :=fun i hi=>(z2k i (by omega) (by omega)).trans (z1k i hi);have x8:=(hold 0 (Qf k0)).trans k0;have x9:=(hold 1 (Qf k1)).trans k1;obtain⟨zh,z7⟩:∃zh:List (Nat×AObj),zh=[(0,.vars (Q7 a)),(1,.vars [.i 0,.nils,.nils]),(H'.length,.vars [.vptr r 0]),(r,.vars [.i a.types,.list (a.fin.map .bool),.list (a.mv.map encMv),LP cl,.sl p 1 0 Q.length,.mref m]),(p,.arr 40 1 (LQ Q)),(m,mpT (Q.map Rv))]:=⟨_,rfl⟩
  have xa:Fx zh Z2:=by
   rw[z7];intro x hx;simp only[yB,vZ,or_false]at hx;rcases hx with rfl|rfl|rfl|rfl|rfl|rfl
   ·exact x8
   ·exact x9
   ·exact hb
   ·exact(hold r xz).trans ht.t
   ·exact(hold p w8).trans ht.s
   ·exact(hold m wa).trans ht.n
  have we:=z8.lim;have xb:∀x∈Q,Af x:=fun x hx=>by have he:=z8.elem x hx;have:=N8 he.1 he.2;have:=zn.fin;exact⟨z8.ne x hx,by omega,fun z hz=>by have:=he.2 z hz;omega⟩
  have wg:=zn.fin;generalize H'.length+1=c at *;generalize H'.length=b at *;refine Qo (Qc (sl':=[(1,.vptr 0 0),(2,.vptr 1 0),(3,.i 0),(4,.vptr b 0),(6,.vptr c 0),(30,.sl p 1 0 Q.length),(31,.i Q.length),(32,.i (0:Nat))]) ?_ (by simp))
  refine Qn (F:=fun(u:Nat×Nat×Nat×List AObj)=>⟨[(1,.vptr 0 0),(2,.vptr 1 0),(3,.i 0),(4,.vptr b 0),(6,.vptr c 0),(30,.sl p 1 0 Q.length),(31,.i Q.length),(32,.i u.1)],u.2.2.2⟩)
   (fun u=>u.1≤Q.length∧Fx zh u.2.2.2∧u.2.2.2[c]? =some (.vars [.i a.types,.sl u.2.1 1 0 u.1,.sl u.2.2.1 3 0 (Dv a cl Q u.1).length])∧u.2.2.2[u.2.1]? =some (.arr 4 1 (((Q.take u.1).map (Fj a)).map .bool))∧u.2.2.2[u.2.2.1]? =some (.arr 78 3 ((Dv a cl Q u.1).map encMv))) (fun u=>Q.length - u.1) ?_ (0,_,_,Z2) ⟨by simp,xa,by rw[Xs];exact z2c,by simpa using x7,by rw[Xs];exact z2v⟩
  clear xa z2c x7 z2v hb x8 x9 hold z2k z1k z1b z1f z1c z1l;clear Z2 Z1;rintro⟨n,f,v,G⟩ ⟨hn,hF,gc,gf,gv⟩ ih;simp only at hn hF gc gf gv ih ⊢;repeat first|(refine r_ ?_;simp)|refine q_ ?_
  refine Qb rfl (fun wh=> ?_) (fun y8=> ?_)
  ·have ze:n<Q.length:=by simpa using wh
   have hw:IntKind.i64.wrap ((n:Int)+1)=n+1:=wrap_i64 _ (by omega) (by omega);have gs:G[p]? =some (.arr 40 1 (LQ Q)):=hF (p,_) (by rw[z7];simp);repeat first|(refine r_ ?_;simp[gs,ze])|refine q_ ?_
   have xc:=zL ze;have hle:=z8.elem _ xc;have wi:Q.getD n []=Q[n]:=by simp[yS,ze]
   have xd:=Ch a cl Q n;have wj:(Q.take (n+1)).map (Fj a)=(Q.take n).map (Fj a)++[Fj a Q[n]]:=by rw[zV ze,yZ];rfl
   rw[wi]at xd;have wk:=(z1r a cl Q (z8.lim) zd n ze).2;have zq:=z8.closed _ xc;have vt:=N8 hle.1 hle.2;have wm:=fun L=>Qa (G:=L) gc;have g0:∀L,(G++L)[0]? =some (.vars (Q7 a)):=fun L=>Qa (hF (0,_) (by rw[z7];simp)) L;have wo:((Q.take n).map (Fj a)).length=n:=by simp;omega
   generalize Q[n]=l at *
   have wF:=hF.app [.vars [.i n]];have wc:=Qa gc [.vars [.i n]];have wf:=Qa gf [.vars [.i n]];have wv:=Qa gv [.vars [.i n]];have w7:(G++[AObj.vars [.i n]])[G.length]? =some (.vars [.i n]):=by simp
   have w0:=g0 [.vars [.i n]];refine Q6 (sl':=[(1,.vptr 0 0),(2,.vptr 1 0),(3,.i 0),(4,.vptr b 0),(6,.vptr c 0),(7,.vptr G.length 0),(8,LI l),(30,.sl p 1 0 Q.length),(31,.i Q.length),(32,.i n)]) ?_ (by simp);generalize G.length=n7 at *;generalize G++[AObj.vars [.i n]]=W at *;clear g0 wm gs gc gf gv hF;clear G
   have yf:((Q.take (n+1)).map (Fj a)).map AV.bool=((Q.take n).map (Fj a)).map AV.bool++[.bool (Fj a l)]:=by rw[wj];simp
   have xe:(((Q.take n).map (Fj a)).map AV.bool).length=n:=by rw[yK];exact wo
   generalize ((Q.take n).map (Fj a)).map AV.bool=xs at *
   have zr:c≠f:=fun e=>by rw[e,wf]at wc;simp at wc
   have yg:c≠v:=fun e=>by rw[e,wv]at wc;simp at wc
   have zt:f≠v:=fun e=>by rw[e,wv]at wf;simp at wf
   have xf:c≠n7:=fun e=>by rw[e,w7]at wc;simp at wc
   have xg:f≠n7:=fun e=>by rw[e,w7]at wf;simp at wf
   have z6:∀p∈zh,p.2≠ .vars [.i a.types,.sl f 1 0 n,.sl v 3 0 (Dv a cl Q n).length]:=by rw[z7];simp[E0]
   have zu:∀p∈zh,p.2≠ .arr 4 1 xs:=by rw[z7];simp[E0]
   have wq:=Qf wc;have wu:=Qf wf;have zv:=Qf wv;have xh:=Qf w7;have xi:=wF.set wf zu .dead;have ya:∀L,(W.set f .dead++L)[c]? =some (.vars [.i a.types,.sl f 1 0 n,.sl v 3 0 (Dv a cl Q n).length]):=fun L=>Qa (Qd (Ne.symm zr) wc _) L;refine Ce (P:=Tryz.prog) tOk mixed [4,6,8] (.val 0 (.val 2 (.val 3 (.two 1 (.one 4 (.one 5 (.one 6 (.val 7 (.one 8 (.done)))))) 4 (.val 1 (.one 5 (.one 6 (.val 7 (.one 8 (.done)))))))))) (fun S'=>∃f',Fx zh S'.hp∧S'.hp[n7]? =some (.vars [.i n])∧S'.hp[c]? =some (.vars [.i a.types,.sl f' 1 0 (n+1),.sl v 3 0 (Dv a cl Q n).length])∧S'.hp[f']? =some (.arr 4 1 (xs++[.bool (Fj a l)]))∧S'.hp[v]? =some (.arr 78 3 ((Dv a cl Q n).map encMv))∧look S'.sl 1=some (.vptr 0 0)∧look S'.sl 2=some (.vptr 1 0)∧look S'.sl 3=some (.i 0)∧look S'.sl 4=some (.vptr b 0)∧look S'.sl 6=some (.vptr c 0)∧look S'.sl 7=some (.vptr n7 0)∧look S'.sl 8=some (LI l)∧look S'.sl 30=some (.sl p 1 0 Q.length)∧look S'.sl 31=some (.i Q.length)∧look S'.sl 32=some (.i n)) rfl (by kernel_rfl) ?_ ?_
   ·simp[wc];refine⟨?_,?_⟩;all_goals
     refine Q4 rfl rfl (Vs W l 55 (.vptr 0 0) (fun s=>a.fin.getD s.toNat false) (by omega) (fun z hz=>u1k W 0 a w0 z (hle.2 z hz).1 (hle.2 z hz).2)) rfl ?_;rintro _ H2 ⟨rfl,wx⟩;rw[wx];have wy:l.any (fun s=>a.fin.getD s.toNat false)=Fj a l:=by unfold Fj;rfl
     rw[wy];simp[wc];refine Qi tOk rfl rfl T22 rfl T4 rfl (by decide) (by decide) rfl rfl rfl ?_;simp[Qa wf,Ql wf,xe,ya,Qa wc];refine⟨by simp[W8,Qa wf,Ql wf,xe,ya,Qa wc]<;>omega,?_⟩;refine⟨?_,?_,W.length+1,?_,?_,?_⟩
     ·exact(xi.app _).set (ya _) z6 _
     ·rw[zE xf,zF (by simpa using xh),zE xg];exact w7
     ·rw[zO (by simp;omega)]
     ·rw[zE (by omega),zK (by simp)];simp
     ·rw[zE yg,zF (by simpa using zv),zE zt];exact wv
   ·rintro⟨sl,E⟩ ⟨f',eF,e7,ec,ef,ev,s1,s2,s3,s4,s6,s7,s8,s30,s31,s32⟩;simp only at eF e7 ec ef ev s1 s2 s3 s4 s6 s7 s8 s30 s31 s32;refine Q6 (sl':=[(1,.vptr 0 0),(2,.vptr 1 0),(3,.i 0),(4,.vptr b 0),(6,.vptr c 0),(7,.vptr n7 0),(8,LI l),(30,.sl p 1 0 Q.length),(31,.i Q.length),(32,.i n)]) ?_ (by simp[s1,s2,s3,s4,s6,s7,s8,s30,s31,s32]);clear s1 s2 s3 s4 s6 s7 s8 s30 s31 s32 xi ya z6 zu wq wu zv xh zr yg zt xf xg w0 w7 wv wf wc wF;have eb:E[b]? =some (.vars [.vptr r 0]):=eF (b,_) (by rw[z7];simp);repeat first|(refine r_ ?_;simp[ec,Qa eb])|refine q_ ?_
    have yh:∀g c,Wa a l (Qm c)=[]→stepG a Q n l g c=g:=fun g c hx=>z1e z8.ne hx;have yi:∀g c t,Q[t]? =some (Wa a l (Qm c))→stepG a Q n l g c=Ts n g t c:=fun g c t hx=>d0b z8.nd hx;have xj:=fun k c hc=>Br a cl Q n l (k:=k) (c:=c) hc;have wz:=fun k=>Hg a cl Q n l zd k;have xk:E2 a cl Q n l 0=[]:=z0c a cl Q n l;have v7:=F1 a cl Q n l;have v8:∀k,∀m∈E2 a cl Q n l k,PWf a.types.toNat m.on:=z1q (fun c hc=>(zo c hc).2.2.2.1);have vb:∀k,∀m∈E2 a cl Q n l k,∀s∈m.on,s.length≤65536:=z1a (fun c hc=>(zo c hc).2.2.2.2) zd;have xl:=fun f v G=>ih (n+1,f,v,G);simp only[xd,←v7,yf]at xl;clear ih;generalize Dv a cl Q n=pre at *;refine Q4 rfl rfl (A4 _ r l) rfl ?_
    rintro _ _ ⟨rfl,rfl⟩;simp;repeat first|(refine r_ ?_;simp)|refine q_ ?_
    obtain⟨zg,z6⟩:∃zg:List (Nat×AObj),zg=zh++[(n7,.vars [.i n]),(E.length,.vars [.i pre.length]),(E.length+1,.vars [.vptr r 0]),(E.length+2,.vars [LI l]),(f',.arr 4 1 (xs++[.bool (Fj a l)]))]:=⟨_,rfl⟩
    refine Ed rfl (Rf:=fun _ H'=>∃v,Fx zg H'∧H'[c]? =some (.vars [.i a.types,.sl f' 1 0 (n+1),.sl v 3 0 (pre++E2 a cl Q n l cl.length).length])∧H'[v]? =some (.arr 78 3 ((pre++E2 a cl Q n l cl.length).map encMv))∧∃sl' yj a' b',H'[E.length+3]? =some (.lp true none 100 sl' yj a' b')) ?_ ?_
    ·simp;refine Du fun H1 zw=> ?_;have vc:Fx zg H1:=by
      rw[z6,zw];intro x hx;rcases zU.1 hx with hx|hx
      ·exact(eF.app _) x hx
      ·simp only[yB,vZ,or_false]at hx;rcases hx with rfl|rfl|rfl|rfl|rfl
       ·exact Qa e7 _
       ·rw[zK (by simp)];simp
       ·rw[zK (by simp)];simp
       ·rw[zK (by simp)];simp
       ·exact Qa ef _
     have fc:H1[c]? =some (.vars [.i a.types,.sl f' 1 0 (n+1),.sl v 3 0 pre.length]):=by rw[zw];exact Qa ec _
     have fv:H1[v]? =some (.arr 78 3 (pre.map encMv)):=by rw[zw];exact Qa ev _
     have fq:=congrArg (fun h:List AObj=>h[E.length+3]?) zw;simp at fq;clear zw;refine FC.mono (q08 a zn cl l (fun c hc=>⟨(zo c hc).1,(zo c hc).2.1,(zo c hc).2.2.1⟩) zd (E.length+3) (E.length+1) (E.length+2) r (by rfl) (by rfl)
      (fun k H'=>∃v,Fx zg H'∧H'[c]? =some (.vars [.i a.types,.sl f' 1 0 (n+1),.sl v 3 0 (pre++E2 a cl Q n l k).length])∧H'[v]? =some (.arr 78 3 ((pre++E2 a cl Q n l k).map encMv))∧H'[E.length+3]? =H1[E.length+3]?)
      (fun k H' ⟨v',h1,h2,h3,h4⟩=>⟨h4.trans fq,h1 (E.length+1,_) (by rw[z6];simp),h1 (E.length+2,_) (by rw[z6];simp),[.sl p 1 0 Q.length,.mref m],h1 (r,_) (by rw[z6,z7];simp)⟩) ?_ ?_ ?_ H1 ⟨v,vc,by rw[xk,xK];exact fc,by rw[xk,xK];exact fv,rfl⟩) ?_
     ·rintro k H' L ⟨v',h1,h2,h3,h4⟩;exact⟨v',h1.app L,Qa h2 L,Qa h3 L,by rw[←h4,zF (by rw[fq]at h4;exact Qf h4)]⟩
     ·rintro k cc H' hc yk ⟨v',h1,h2,h3,h4⟩;have:=yh (E2 a cl Q n l k) cc yk;rw[←xj k cc hc]at this;exact⟨v',h1,by rw[this];exact h2,by rw[this];exact h3,h4⟩
     ·rintro k cc H' hc yk ⟨v',h1,h2,h3,h4⟩;rw[xj k cc hc];have zx:=zH hc;have yl:Wa a l (Qm cc)∈Q:=(zq cc zx).resolve_left yk;have ym:=yi (E2 a cl Q n l k) cc;have vd:=wz k;have zj:=v8 k;have yn:=vb k;have zi:=zo cc zx;generalize Wa a l (Qm cc)=nx at *;generalize stepG a Q n l (E2 a cl Q n l k) cc=g2 at *;generalize E2 a cl Q n l k=g at *
      simp[Rk];have h8:=h4.trans fq;obtain⟨LP0,zk⟩:∃LP0,H1[E.length+3]? =some LP0:=⟨_,fq⟩
      have za:LP0.isLp=true:=by rw[fq]at zk;injection zk with e;rw[←e];rfl
      have zb:H'[E.length+3]? =some LP0:=h4.trans zk;have yo:∀p∈zg,p.2≠LP0:=fun p hp e=>by rw[←e]at za;rw[z6,z7]at hp;simp only[zU,yB,vZ,or_false]at hp;rcases hp with(rfl|rfl|rfl|rfl|rfl|rfl)|(rfl|rfl|rfl|rfl|rfl)<;>simp[AObj.isLp,E0]at za
      have y1:=h1.set zb yo .dead;have yp:E.length+3≠c:=fun e=>by rw[e,h2]at zb;injection zb with e2;rw[←e2]at za;simp[AObj.isLp]at za
      have yq:E.length+3≠v':=fun e=>by rw[e,h3]at zb;injection zb with e2;rw[←e2]at za;simp[AObj.isLp]at za
      have y2:=Qd yp h2 .dead;have y3:=Qd yq h3 .dead;have y4:=Qh zb .dead;generalize H'.set (E.length+3) .dead=Y at *
      have yb:Y[b]? =some (.vars [.vptr r 0]):=y1 (b,_) (by rw[z6,z7];simp);have y0:Y[0]? =some (.vars (Q7 a)):=y1 (0,_) (by rw[z6,z7];simp);have y7:Y[n7]? =some (.vars [.i n]):=y1 (n7,_) (by rw[z6];simp);have y9:Y[E.length]? =some (.vars [.i pre.length]):=y1 (E.length,_) (by rw[z6];simp);have yt:TB r p m a cl Q Y:=⟨y1 (r,_) (by rw[z6,z7];simp),y1 (p,_) (by rw[z6,z7];simp),y1 (m,_) (by rw[z6,z7];simp)⟩
      repeat first|(refine r_ ?_;simp[Qa yb])|refine q_ ?_
      refine Q4 rfl rfl (Nw _ r p m a cl Q nx (yt.keep fun j hj=> ?_) (xb nx yl) xb (by omega)) rfl ?_
      ·have:j<Y.length:=by
        rcases hj with rfl|rfl|rfl
        ·exact Qf yt.t
        ·exact Qf yt.s
        ·exact Qf yt.n
       exact zF this
      rintro res Z ⟨t,p2,rfl,xm,-,-,-,hZ,-⟩;rw[hZ yl];have yr:v0p Q nx=Q:=by rw[v0p,if_pos yl]
      rw[yr]at xm;rw[ym t xm];clear hZ;simp;repeat first|(refine r_ ?_;simp[Qa y2,Qa y9])|refine q_ ?_
      have xn:∀M,(Y++M)[v']? =some (.arr 78 3 ((pre++g).map encMv)):=fun M=>Qa y3 M;refine Q4 rfl rfl (k0b (Y++[AObj.vars [.list (cc.map encL)],.vars [.i t]]) v' pre.length t (Y.length+1) pre g (by rw[zK (by omega)];simp) (xn _) (by omega) rfl) rfl ?_;rintro _ _ ⟨rfl,L,rfl⟩;simp;repeat first|(refine r_ ?_;simp)|refine q_ ?_
      have w1:=y1.app ([AObj.vars [.list (cc.map encL)],.vars [.i t]]++L);have w2:=Qa y2 ([AObj.vars [.list (cc.map encL)],.vars [.i t]]++L);have w3:=xn ([AObj.vars [.list (cc.map encL)],.vars [.i t]]++L);have w4:=Qa y4 ([AObj.vars [.list (cc.map encL)],.vars [.i t]]++L);have w5:(Y++([AObj.vars [.list (cc.map encL)],.vars [.i t]]++L))[Y.length]? =some (.vars [.list (cc.map encL)]):=by rw[zK (by omega)];simp
      have w6:(Y++([AObj.vars [.list (cc.map encL)],.vars [.i t]]++L))[Y.length+1]? =some (.vars [.i t]):=by rw[zK (by omega)];simp
      have w7:=Qa y7 ([AObj.vars [.list (cc.map encL)],.vars [.i t]]++L);have w0:=Qa y0 ([AObj.vars [.list (cc.map encL)],.vars [.i t]]++L);have w9:=Qa y9 ([AObj.vars [.list (cc.map encL)],.vars [.i t]]++L);have xo:((a.types.toNat:Nat):Int)=a.types:=by have:=zn.types;omega
      simp only[List.cons_append,List.nil_append]at w0 w1 w2 w3 w4 w5 w6 w7 w9;generalize Y++AObj.vars [.list (cc.map encL)]::AObj.vars [.i t]::L=W at *;generalize Y.length+1=i12 at *;generalize Y.length=i10 at *
      have xp:∀p∈zg,p.2≠ .dead:=by rw[z6,z7];simp[E0]
      have yu:∀p∈zg,p.2≠ .vars [.i a.types,.sl f' 1 0 (n+1),.sl v' 3 0 (pre.length+g.length)]:=by rw[z6,z7];simp[E0]
      have zy:∀p∈zg,p.2≠ .arr 78 3 ((pre++g).map encMv):=by rw[z6,z7];simp[E0]
      rw[z_]at w2;have xq:v'≠c:=fun e=>by rw[e,w2]at w3;simp at w3
      have yv:v'≠E.length+3:=fun e=>by rw[e,w4]at w3;simp at w3
      have yw:c≠E.length+3:=fun e=>by rw[e,w4]at w2;simp at w2
      have lc:=Qf w2;have lv:=Qf w3;have lq:=Qf w4;refine Q6 (sl':=[(1,.vptr 0 0),(6,.vptr c 0),(7,.vptr n7 0),(9,.vptr E.length 0),(10,.vptr i10 0),(12,.vptr i12 0),(13,.i (f04 g t)),(63,.bool (decide (f04 g t<0)))]) ?_ (by simp);cases hfi:g.findIdx? fun m:Mv=>decide (m.dst=(t:Int))with
      |none=>
       have yx:f04 g t= -1:=by rw[f04,hfi]
       have zl:Ts n g t cc=g++[⟨n,t,cc⟩]:=by rw[Ts,hfi]
       rw[yx,zl];refine Qj rfl ?_;simp;repeat first|(refine r_ ?_;simp)|refine q_ ?_
       refine Qs tOk mixed [11,13] (.val 0 (.val 1 (.val 2 (.val 3 (.val 4 (.val 5 (.val 6 (.one 7 (.one 8 (.val 9 (.one 10 (.one 11 (.val 12 (.one 13 (.done))))))))))))))) rfl (by kernel_rfl) ?_;simp[w0,w2,w5,w6,w7];refine Rz W.length (e:=76) (c:=1) (xs:=[encP cc]) (by simp) ?_;simp;have xr:=Lr a.types.toNat [cc] (by have:=zn.types;omega) (fun p hp=>by rw[zP.1 hp];exact zi.2.2.2.1) (fun j hj=>u1v zi.2.2.2.1 zi.2.2.2.2 hj) (by simp);rw[xo,u12 zi.2.2.2.1]at xr;refine Qe rfl rfl (by simp) (xr) rfl ?_;rintro _ rfl;simp;have w2b:∀M,(W++M)[c]? =some (.vars [.i a.types,.sl f' 1 0 (n+1),.sl v' 3 0 (pre.length+g.length)]):=fun M=>Qa w2 M;have w2c:∀M,(W.set v' .dead++M)[c]? =some (.vars [.i a.types,.sl f' 1 0 (n+1),.sl v' 3 0 (pre.length+g.length)]):=fun M=>Qa (Qd xq w2 _) M;have zv:((pre++g).map encMv).length=pre.length+g.length:=by simp
       have ve:=(w1.set w3 zy .dead)
       generalize yy:(pre++g).map encMv=mm at *;refine Qi tOk rfl rfl T23 rfl T78 rfl (by decide) (by decide) rfl rfl rfl ?_
       simp[Qa w3,Ql w3,w2b,w2c,zv];refine⟨by simp[W8,Qa w3,Ql w3,w2b,w2c,zv]<;>omega,?_⟩;repeat first|(refine r_ ?_;simp)|refine q_ ?_
       have zm:((W.set v' AObj.dead++[AObj.dead,AObj.arr 78 3 [.agg [.i n,.i t,.list (cc.map encL)]],AObj.arr 78 3 (mm++[.agg [.i n,.i t,.list (cc.map encL)]])]).set c (AObj.vars [.i a.types,.sl f' 1 0 (n+1),.sl (W.length+2) 3 0 (pre.length+g.length+1)]))[E.length+3]? =some .dead:=by rw[zE yw,zF (by simpa using lq),zE yv];exact w4
       refine⟨zm,rfl,((ve.app _).set (w2c _) yu _).set zm xp _,W.length+2,?_,?_,?_⟩
       ·rw[zE (Ne.symm yw),zO (by simp;omega)];simp[Nat.add_assoc]
       ·rw[zE (by omega),zE (by omega),zK (by simp)];rw[←yy];simp
       ·rw[fq,zO (Qf zm)]
      |some i=>
       have yx:f04 g t=i:=by rw[f04,hfi]
       obtain⟨xt,hid,-⟩:=xF.1 hfi;have xu:g[i]? =some g[i]:=zJ xt;have zl:Ts n g t cc=g.set i { g[i]with on:=Rm g[i].on cc }:=by rw[Ts,hfi];simp[xu]
       rw[yx,zl];refine Qb rfl (fun h=>by simp at h;omega) (fun _=> ?_);have vf:IntKind.i64.wrap ((pre.length:Int)+i)=pre.length+i:=wrap_i64 _ (by omega) (by omega);have yz:(pre.length:Int)+i<pre.length+g.length:=by omega
       have vg:(0:Int)≤(pre.length:Int)+i:=by omega
       have vh:((pre.length:Int)+i).toNat=pre.length+i:=by omega
       repeat first|(refine r_ ?_;simp[w2,w9,vf,yz,vg,vh])|refine q_ ?_
       have y8:((pre++g).map encMv)[pre.length+i]? =some (.agg [.i g[i].src,.i g[i].dst,.list (g[i].on.map encL)]):=by rw[yZ,zK (by simp)];simp[xu]
       have x0:((pre++g).map encMv).length=pre.length+g.length:=by simp
       generalize yy:(pre++g).map encMv=mm at *
       have x2:yL 2=[0,1]:=rfl;refine Qs tOk mixed [12] (.val 0 (.val 1 (.val 2 (.val 3 (.val 4 (.val 5 (.val 6 (.val 7 (.one 8 (.one 9 (.val 10 (.val 11 (.one 12 (.done)))))))))))))) rfl (by kernel_rfl) ?_;simp[w0,w3,w5,y8,x0,x2];refine Rz W.length (e:=76) (c:=1) (xs:=[encP g[i].on,encP cc]) (by simp) ?_;simp;have yc:=zL xt;have xv:=Lr a.types.toNat [g[i].on,cc] (by have:=zn.types;omega) (fun p hp=>by
        simp only[yB,vZ,or_false]at hp;rcases hp with rfl|rfl
        ·exact zj _ yc
        ·exact zi.2.2.2.1) (fun j hj=>k1h (zj _ yc) zi.2.2.2.1 (yn _ yc) zi.2.2.2.2 hj) (by simp)
       rw[xo,k1u (zj _ yc) zi.2.2.2.1]at xv;have w3b:∀M,(W++M)[v']? =some (.arr 78 3 mm):=fun M=>Qa w3 M;refine Qe rfl rfl (by simp) (xv) rfl ?_;rintro _ rfl;simp[w3b,y8,Ql w3];repeat first|(refine r_ ?_;simp)|refine q_ ?_
       have zm:(W.set v' (AObj.arr 78 3 (mm.set (pre.length+i) (.agg [.i g[i].src,.i g[i].dst,.list ((Rm g[i].on cc).map encL)])))++[AObj.dead])[E.length+3]? =some .dead:=by rw[zF (by simpa using lq),zE yv];exact w4
       refine⟨zm,rfl,(((w1.set w3 zy _).app _).set zm xp _),v',?_,?_,?_⟩
       ·rw[zE (Ne.symm yw),zF (by simpa using lc),zE xq];rw[w2]
       ·rw[zE (Ne.symm yv),zF (by simpa using lv),zO lv];rw[←yy,yZ,List.set_append_right _ _ (by simp)];simp[List.map_set]
       ·rw[fq,zO (Qf zm)]
     ·rintro _ H' ⟨v',h1,h2,h3,h4⟩;exact⟨h1,v',by simpa using h2,by simpa using h3,_,_,_,_,h4.trans fq⟩
    ·rintro res H' ⟨v',h1,h2,h3,⟨sl',yj,a',b',h6⟩⟩;refine⟨true,none,100,sl',yj,a',b',by simpa using h6,?_⟩;simp;have yp:E.length+3≠c:=fun e=>by rw[e,h2]at h6;simp at h6
     have yq:E.length+3≠v':=fun e=>by rw[e,h3]at h6;simp at h6
     have y1:=h1.set h6 (by rw[z6,z7];simp[E0]) .dead;have y2:=Qd yp h2 .dead;have y3:=Qd yq h3 .dead;generalize H'.set (E.length+3) .dead=Y at *
     repeat first|(refine r_ ?_;simp[hw])|refine q_ ?_
     refine Qc (sl':=[(1,.vptr 0 0),(2,.vptr 1 0),(3,.i 0),(4,.vptr b 0),(6,.vptr c 0),(30,.sl p 1 0 Q.length),(31,.i Q.length),(32,.i (n+1:Nat))]) ?_ (by simp);refine xl f' v' Y ⟨by omega,fun x hx=>y1 x (by rw[z6];exact yY _ hx),y2,y1 (f',_) (by rw[z6];simp),y3⟩ (by omega)
  ·have x3:n=Q.length:=by simp at y8;omega
   subst x3;have zz:Dv a cl Q Q.length=(Uf a cl Q).mv:=w1r a cl Q;have x4:(Q.take Q.length).map (Fj a)=(Uf a cl Q).fin:=by rw[y_];exact(Mo a cl Q).symm
   have vi:(Uf a cl Q).fin.length=Q.length:=by rw[Mo];simp
   have vj:(Uf a cl Q).mv.length≤65536:=by rw[←zz];exact g0q a cl Q we zd
   rw[zz]at gc gv;rw[x4]at gf;rw[←vi]at gc;have vk:(Uf a cl Q).types=a.types:=z0z a cl Q;have yz:Ji (Uf a cl Q)=if Vw (Uf a cl Q)then(5,Uo)else(0,Uf a cl Q):=Mu _
   rw[yz];generalize Uf a cl Q=d at *
   have g1:G[1]? =some (.vars [.i 0,.nils,.nils]):=hF (1,_) (by rw[z7];simp);have yg:v≠c:=fun e=>by rw[e,gc]at gv;simp at gv
   have zt:f≠v:=fun e=>by rw[e,gv]at gf;simp at gf
   have yd:f≠c:=fun e=>by rw[e,gc]at gf;simp at gf
   have vl:f≠1:=fun e=>by rw[e,g1]at gf;simp at gf
   have vm:v≠1:=fun e=>by rw[e,g1]at gv;simp at gv
   have vn:c≠1:=fun e=>by rw[e,g1]at gc;simp at gc
   refine Q6 (sl':=[(2,.vptr 1 0),(3,.i 0),(6,.vptr c 0)]) ?_ (by simp);refine Wj v gv c gc ?_;simp[zt];rw[zY (by simp)];have x5:=Qf gc;have vo:=Qf gf;refine Wd fun Z hZ=> ?_;have zc:Z[c]? =some (.vars [.i d.types,.sl f 1 0 d.fin.length,.list (d.mv.map encMv)]):=by rw[hZ,vk];exact zO (by simpa using x5)
   have zf:Z[f]? =some (.arr 4 1 (d.fin.map .bool)):=by rw[hZ,zE (Ne.symm yd),zE (Ne.symm zt)];exact gf
   have z1:Z[1]? =some (.vars [.i 0,.nils,.nils]):=by rw[hZ,zE vn,zE vm];exact g1
   clear hZ;repeat first|(refine r_ ?_;simp[zc])|refine q_ ?_
   refine Q4 rfl rfl (Gj Z f d zf (by omega) (by omega)) rfl ?_;rintro res Y ⟨hr,xw⟩;have y5:=(xw 1 (Qf z1)).trans z1;have vp:=(xw f (Qf zf)).trans zf;have x2:∀X,(Y.set 1 X)[1]? =some X:=fun X=>Qh y5 X;rcases hr with⟨hb,rfl⟩|⟨hb,rfl⟩
   ·rw[hb];simp[y5];repeat first|(refine r_ ?_;simp[x2])|refine q_ ?_
    exact⟨rfl,rfl,rfl⟩
   ·rw[hb];simp[y5];refine Q6 (sl':=[(2,.vptr 1 0),(3,.i 0)]) ?_ (by simp);refine Wj f (Qd (Ne.symm vl) vp _) 1 (Qh y5 _) ?_;simp;rw[zY (by simp)];refine Wd fun X hX=> ?_;have x1:X[1]? =some (.vars [.i d.types,.list (d.fin.map .bool),.list (d.mv.map encMv)]):=by rw[hX];exact zO (by have:=Qf y5;simpa using this)
    repeat first|(refine r_ ?_;simp[x1])|refine q_ ?_
end Go.Abs
namespace Go.Abs
open Go Go.Proofs Go.Maps Go.RowKit
theorem c1o{a:Aut}(h:(Ru a).1=0):OkA (Ru a).2:=by
 have h0:(Oz a).1=0:=by
  by_cases hs:(Oz a).1=0
  ·exact hs
  ·rw[Ru,if_pos hs]at h;exact absurd h hs
 obtain⟨z8,cl,Q,z7,za,z1,z6,_,_⟩:=Vg h0;have hd:Ru a=Ji (Uf a cl Q):=by rw[Ru,z7];simp
 rw[hd]at h ⊢;have hw:=x1m z1 z6;have e:Ji (Uf a cl Q)=(0,(Ji (Uf a cl Q)).2):=ua h rfl;have h2:=d02 hw e;rw[h2.1];exact h2.1▸h2.2
def z2h(l:List Bool)(i:Nat):List Bool:=l.mapIdx fun k b=>if k<i then !b else b
attribute [local irreducible] Ru O3 z2h
end Go.Abs
namespace Go.Abs
open Go Go.Proofs Go.Maps Go.RowKit
theorem w0e(a:Aut):PC Tryz.prog 22 [encA a,encA a] (fun r=>r= .bool true):=by
 refine Qk tOk Tryz.func22 rfl Tryz.results22 rfl (by simp[Tryz.ntmps22]) ?_;rw[Tryz.ntmps22];simp only[Qg];simp only[encA];refine W9 0 1 rfl rfl (fun hlen=> ?_);rw[yK]at hlen;refine W9 0 2 rfl rfl (fun z6=> ?_);rw[yK]at z6;repeat first|(refine r_ ?_;simp)|refine q_ ?_
 refine Qb rfl (fun h=>by simp at h) (fun _=> ?_);repeat first|(refine r_ ?_;simp)|refine q_ ?_
 refine Qy a.fin.length (fun _=>True) (fun j=>[(2,.vptr 0 0),(3,.vptr 1 0),(5,.i j)]) (fun _=>[.vars (Q7 a),.vars (Q7 a)]) rfl (by simp) (by simp) (by simp) (by simp) trivial ?_;intro j hj _ ih;repeat first|(refine r_ ?_;simp)|refine q_ ?_
 refine Qb rfl (fun z7=> ?_) (fun z8=> ?_)
 ·have z1:j<a.fin.length:=by simpa using z7
  have hw:IntKind.i64.wrap ((j:Int)+1)=j+1:=wrap_i64 _ (by omega) (by omega);repeat first|(refine r_ ?_;simp)|refine q_ ?_
  refine Qs tOk mixed [] (.val 0 (.val 1 (.val 2 (.val 3 (.val 4 (.val 5 (.val 6 (.val 7 (.val 8 (.val 9 (.val 10 (.done)))))))))))) rfl (by kernel_rfl) ?_;simp[z1];refine Qb rfl (fun h=>by simp at h) (fun _=> ?_);repeat first|(refine r_ ?_;simp[hw])|refine q_ ?_
  refine Qz _ (ih z1 trivial) rfl (by simp) ?_ (by simp) (by simp);simp
 repeat first|(refine r_ ?_;simp)|refine q_ ?_
 refine Qy a.mv.length (fun _=>True) (fun j=>[(2,.vptr 0 0),(3,.vptr 1 0),(6,.i j)]) (fun _=>[.vars (Q7 a),.vars (Q7 a)]) rfl (by simp) (by simp) (by simp) (by simp) trivial ?_;intro j2 zb _ za;repeat first|(refine r_ ?_;simp)|refine q_ ?_
 refine Qb rfl (fun z7=> ?_) (fun z8=> ?_)
 ·have z1:j2<a.mv.length:=by simpa using z7
  have hw:IntKind.i64.wrap ((j2:Int)+1)=j2+1:=wrap_i64 _ (by omega) (by omega);repeat first|(refine r_ ?_;simp)|refine q_ ?_
  obtain⟨m,hm⟩:∃m,a.mv[j2]=m:=⟨_,rfl⟩
  refine c0h tOk mixed [12,13] (.val 0 (.val 1 (.val 2 (.val 3 (.val 4 (.val 5 (.val 7 (.three 6 (.val 8 (.three 9 (.two 10 (.one 11 (.one 12 (.one 13 (.done)))) 11 (.one 10 (.one 12 (.one 13 (.done))))) 10 (.two 9 (.one 11 (.one 12 (.one 13 (.done)))) 11 (.two 9 (.one 12 (.one 13 (.done))) 12 (.val 9 (.one 13 (.done))))) 11 (.two 9 (.one 10 (.one 12 (.one 13 (.done)))) 10 (.two 9 (.one 12 (.one 13 (.done))) 12 (.val 9 (.one 13 (.done))))))) 10 (.two 6 (.val 8 (.two 9 (.one 11 (.one 12 (.one 13 (.done)))) 11 (.two 9 (.one 12 (.one 13 (.done))) 12 (.val 9 (.one 13 (.done)))))) 11 (.two 6 (.val 8 (.two 9 (.one 12 (.one 13 (.done))) 12 (.val 9 (.one 13 (.done))))) 12 (.val 6 (.val 8 (.val 9 (.one 13 (.done))))))) 11 (.two 6 (.val 8 (.two 9 (.one 10 (.one 12 (.one 13 (.done)))) 10 (.two 9 (.one 12 (.one 13 (.done))) 12 (.val 9 (.one 13 (.done)))))) 10 (.two 6 (.val 8 (.two 9 (.one 12 (.one 13 (.done))) 12 (.val 9 (.one 13 (.done))))) 12 (.val 6 (.val 8 (.val 9 (.one 13 (.done))))))))))))))) (⟨[(2,.vptr 0 0),(3,.vptr 1 0),(6,.i j2),(7,.vptr 2 0),(8,.vptr 3 0)],[.vars (Q7 a),.vars (Q7 a),.vars [.i m.src,.i m.dst,.list (m.on.map encL)],.vars [.i m.src,.i m.dst,.list (m.on.map encL)]]⟩) rfl (by kernel_rfl) ?_ ?_;simp[z1,hm]
  ·repeat' apply And.intro
   all_goals first|(refine z0q ?_;simp;done)|exact u08 [0,1,3,2] (by simp) (by decide) (by simp) rfl (by simp) (by simp) (by simp)
  repeat first|(refine r_ ?_;simp)|refine q_ ?_
  refine Qe rfl rfl (by simp) (j05 m.on m.on) rfl ?_;rintro _ rfl;simp;repeat first|(refine r_ ?_;simp)|refine q_ ?_
  refine Qb rfl (fun h=>by simp at h) (fun _=> ?_);repeat first|(refine r_ ?_;simp[hw])|refine q_ ?_
  refine Qz _ (za z1 trivial) rfl (by simp) ?_ (by simp) (by simp);simp
 repeat first|(refine r_ ?_;simp)|refine q_ ?_
def Jf(lo hi:Int):Prd:=[[⟨lo,hi⟩]]
def exA:Aut:=⟨1,[false,false,true],[⟨0,0,Jf (-1099511627776) 1099511627776⟩,⟨0,1,Jf 5 1099511627776⟩,⟨1,2,Jf (-1099511627776) 7⟩]⟩
def q2u(l:List Int):List Sy:=l.map fun n=>⟨0,n⟩
def C5(a:Aut)(w:List Sy):Bool:=w1w a && decide (w.length≤12) && (Ke a w).2==0
end Go.Abs
namespace Go.Abs
open Go Go.Proofs
def exC:List Prd:=[[[⟨-1099511627776,4⟩]],[[⟨5,7⟩]],[[⟨8,1099511627776⟩]]]
def exQ:List (List Int):=[[0],[0,1],[0,2],[0,1,2]]
def exD:Aut:=Uf exA exC exQ
end Go.Abs
namespace Go.Abs
open Go Go.Proofs Go.Maps Go.RowKit
attribute [simp] T84 T86
attribute [local irreducible] exA exD Ru Oz y2p Sm O3 Ke y1z q2u f1j exQ
end Go.Abs
namespace Go.Abs
structure EqvB (n:Nat) (E:Nat→Nat→Bool):Prop where
 refl:∀i,i<n→E i i=true
 symm:∀i k,i<n→k<n→E i k=true→E k i=true
 trans:∀i k j,i<n→k<n→j<n→E i k=true→E k j=true→E i j=true
def Zp(E:Nat→Nat→Bool)(st:List Nat×List Nat)(i:Nat):List Nat×List Nat:=
 match st.1.findIdx? (E i)with
 |some t=>(st.1,st.2++[t])
 |none=>(st.1++[i],st.2++[st.1.length])
def P2(E:Nat→Nat→Bool)(n:Nat):List Nat×List Nat:=(yL n).foldl (Zp E) ([],[])
def j1c(E:Nat→Nat→Bool)(st:Nat×List Nat)(i:Nat):Nat×List Nat:=
 match (yL i).find? (E i)with
 |some k=>(st.1,st.2++[st.2.getD k 0])
 |none=>(st.1+1,st.2++[st.1])
def y2u(E:Nat→Nat→Bool)(n:Nat):Nat×List Nat:=(yL n).foldl (j1c E) (0,[])
theorem Cs(E:Nat→Nat→Bool)(n:Nat):P2 E (n+1)=Zp E (P2 E n) n:=by rw[P2,wH,wp];rfl
structure ClsS (E:Nat→Nat→Bool) (n:Nat) (fs out:List Nat):Prop where
 len:out.length=n
 asc:fs.Pairwise (·<·)
 lt:∀r∈fs,r<n
 apart:fs.Pairwise (fun r s=>E r s=false)
 num:∀i,i<n→∃t r,out[i]? =some t∧fs[t]? =some r∧r≤i∧E i r=true
theorem Wz{α:Type}{l:List α}{i:Nat}{x:α}(h:l[i]? =some x):i<l.length:=(zB.1 h).1
theorem x0i{α:Type}{l:List α}{f:α→Bool}{t:Nat}{x:α}(ht:l[t]? =some x)(hx:f x=true)(hu:∀(i j:Nat) (a b:α),l[i]? =some a→l[j]? =some b→f a=true→f b=true→i=j):l.findIdx? f=some t:=by
 cases hf:l.findIdx? f with
 |none=>rw[wV]at hf;have:=hf x (zH ht);rw[hx]at this;cases this
 |some u=>obtain⟨z1,z6,_⟩:=xF.1 hf;rw[hu u t l[u] x (zJ z1) ht z6 hx]
theorem ClsS.uniq{E:Nat→Nat→Bool}{N n:Nat}(hE:EqvB N E)(hn:n≤N){fs out:List Nat}(h:ClsS E n fs out){i:Nat}(hi:i<N){u v r s:Nat}(hr:fs[u]? =some r)(hs:fs[v]? =some s)(e1:E i r=true)(e2:E i s=true):u=v:=by
 have z7:=zH hr;have z8:=zH hs;have za:=h.lt r z7;have zb:=h.lt s z8;have z1:E r s=true:=hE.trans r i s (by omega) hi (by omega) (hE.symm i r hi (by omega) e1) e2;have z6:E s r=true:=hE.symm r s (by omega) (by omega) z1;obtain⟨hu,rfl⟩:=zB.1 hr;obtain⟨hv,rfl⟩:=zB.1 hs;rcases vP u v with k|k|k
 ·have:=(yQ.1 h.apart) u v hu hv k;rw[this]at z1;cases z1
 ·exact k
 ·have:=(yQ.1 h.apart) v u hv hu k;rw[this]at z6;cases z6
theorem Nd{E:Nat→Nat→Bool}{N:Nat}(hE:EqvB N E):∀n,n≤N→ClsS E n (P2 E n).1 (P2 E n).2
 |0,_=>⟨rfl,by simp[P2],by simp[P2],by simp[P2],fun i hi=>by omega⟩
 |n+1,hn=>by
  have h:=Nd hE n (by omega);rw[Cs];generalize P2 E n=st at *
  obtain⟨fs,out⟩:=st;simp only at h;unfold Zp;simp only;cases hf:fs.findIdx? (E n)with
  |some t=>
   obtain⟨h1,h2,_⟩:=xF.1 hf;simp only;refine⟨by simp[h.len],h.asc,fun r hr=>by have:=h.lt r hr;omega,h.apart,fun i hi=> ?_⟩;by_cases e:i=n
   ·subst e;exact⟨t,fs[t],by rw[zK (by rw[h.len];omega)];simp[h.len],zJ h1,by have:=h.lt _ (zL h1);omega,h2⟩
   ·obtain⟨t',r,a1,a2,a3,a4⟩:=h.num i (by omega);exact⟨t',r,by rw[zF (by rw[h.len];omega)];exact a1,a2,a3,a4⟩
  |none=>
   rw[wV]at hf;simp only;refine⟨by simp[h.len],yH.2 ⟨h.asc,by simp,fun r hr s hs=>by rw[zP.1 hs];exact h.lt r hr⟩,fun r hr=> ?_,yH.2 ⟨h.apart,by simp,fun r hr s hs=> ?_⟩,fun i hi=> ?_⟩
   ·rcases zU.1 hr with hr|hr
    ·have:=h.lt r hr;omega
    ·rw[zP.1 hr];omega
   ·rw[zP.1 hs];have z1:=h.lt r hr;have:=hf r hr;cases hc:E r n
    ·rfl
    ·rw[hE.symm r n (by omega) (by omega) hc]at this;cases this
   ·by_cases e:i=n
    ·subst e;exact⟨fs.length,i,by rw[zK (by rw[h.len];omega)];simp[h.len],by rw[zK (by omega)];simp,by omega,hE.refl i (by omega)⟩
    ·obtain⟨t',r,a1,a2,a3,a4⟩:=h.num i (by omega);exact⟨t',r,by rw[zF (by rw[h.len];omega)];exact a1,by rw[zF (Wz a2)];exact a2,a3,a4⟩
theorem ClsS.same{E:Nat→Nat→Bool}{n:Nat}(hE:EqvB n E){fs out:List Nat}(h:ClsS E n fs out){i k:Nat}(hi:i<n)(hk:k<n):out.getD i 0=out.getD k 0↔E i k=true:=by
 obtain⟨t,r,a1,a2,a3,a4⟩:=h.num i hi;obtain⟨u,s,b1,b2,b3,b4⟩:=h.num k hk;simp only[yS,a1,b1,wB];constructor
 ·intro e;subst e;rw[a2]at b2;cases b2;exact hE.trans i r k hi (by omega) hk a4 (hE.symm k r hk (by omega) b4)
 ·intro e;refine h.uniq hE (zR n) hi a2 b2 a4 ?_;exact hE.trans i k s hi hk (by omega) e b4
theorem ClsS.first{E:Nat→Nat→Bool}{n:Nat}(hE:EqvB n E){fs out:List Nat}(h:ClsS E n fs out){t r:Nat}(ht:fs[t]? =some r):out.findIdx? (fun c=>decide (c=t))=some r:=by
 have hr:=h.lt r (zH ht);rw[xF];refine⟨by rw[h.len];exact hr,?_,fun j hj=> ?_⟩
 ·obtain⟨u,s,a1,a2,a3,a4⟩:=h.num r hr;have hu:u=t:=h.uniq hE (zR n) hr a2 ht a4 (hE.refl r hr);obtain⟨hl,e⟩:=zB.1 a1;rw[e,hu];simp
 ·obtain⟨u,s,a1,a2,a3,a4⟩:=h.num j (by omega);obtain⟨hl,e⟩:=zB.1 a1;rw[e];have:u≠t:=fun e'=>by subst e';rw[ht]at a2;cases a2;omega
  simpa using this
theorem ClsS.lt_fs{E:Nat→Nat→Bool}{n:Nat}{fs out:List Nat}(h:ClsS E n fs out){i:Nat}(hi:i<n):out.getD i 0<fs.length:=by obtain⟨t,r,a1,a2,_,_⟩:=h.num i hi;simp only[yS,a1,wB];exact Wz a2
def eqW(a b:Aut)(p q:Int):Prop:=∀w,(∀x∈w,Wv a x)→Jd a p w=Jd b q w
def eqS(a:Aut)(i k:Nat):Bool:=(lkN (En a) ((i:Int),(k:Int))).isNone
theorem Pz{a:Aut}{i:Nat}(h:i<a.fin.length):inS a (i:Int):=⟨by omega,by omega⟩
theorem g0w{a b:Aut}(ha:Dfa a)(hb:Dfa b)(ht:b.types=a.types){p q:Int}(hp:inS a p)(hq:inS b q):(P7 a b p q).1=none↔eqW a b p q:=by
 rcases He ha hb ht hp hq with⟨w,h1,h2⟩|⟨h1,h2⟩
 ·rw[h1];exact⟨fun h=>(by cases h),fun h=>absurd (h w h2.okw) ((Ae a b p q w).1 h2.goodw)⟩
 ·exact⟨fun _=>h2,fun _=>h1⟩
theorem Pw{a:Aut}(ha:Dfa a){i k:Nat}(hi:i<a.fin.length)(hk:k<a.fin.length):eqS a i k=true↔eqW a a i k:=by rw[←g0w ha ha rfl (Pz hi) (Pz hk),N3 ha (Pz hi) (Pz hk),eqS];cases lkN (En a) ((i:Int),(k:Int))<;>simp
theorem x1b{a:Aut}(ha:Dfa a):EqvB a.fin.length (eqS a):=
 ⟨fun i hi=>(Pw ha hi hi).2 fun _ _=>rfl,fun i k hi hk h=>(Pw ha hk hi).2 fun w hw=>((Pw ha hi hk).1 h w hw).symm,
  fun i k j hi hk hj h h'=>(Pw ha hi hj).2 fun w hw=>((Pw ha hi hk).1 h w hw).trans ((Pw ha hk hj).1 h' w hw)⟩
def fsA(a:Aut):List Nat:=(P2 (eqS a) a.fin.length).1
def clA(a:Aut):List Nat:=(P2 (eqS a) a.fin.length).2
theorem j15{a:Aut}(ha:Dfa a):ClsS (eqS a) a.fin.length (fsA a) (clA a):=Nd (x1b ha) _ (zR _)
theorem c05{a:Aut}(ha:Dfa a){i k:Nat}(hi:i<a.fin.length)(hk:k<a.fin.length):(clA a).getD i 0=(clA a).getD k 0↔eqW a a i k:=by rw[(j15 ha).same (x1b ha) hi hk,Pw ha hi hk]
end Go.Abs
namespace Go.Abs
section
variable {α:Type} (key:α→Nat×Int)
def Zu(s:List α)(x:α):Nat→Nat
 |0=>0
 |j+1=>match s[j]? with
  |some y=>if Vd (key x) (key y)=true then Zu s x j else j+1
  |none=>j+1
def c0l(s:List α)(x:α):List α:=s.take (Zu key s x s.length)++x::s.drop (Zu key s x s.length)
def y1p(L:List α):List α:=L.foldl (c0l key) []
def ltG(p q:α):Prop:=U2 (key p).1 (key p).2 (key q).1 (key q).2
theorem Kx(s:List α)(x:α):∀j,j≤s.length→Zu key s x j≤j∧(∀i,Zu key s x j≤i→i<j→∀h:i<s.length,Vd (key x) (key s[i])=true)∧(∀i,i+1=Zu key s x j→∀h:i<s.length,Vd (key x) (key s[i])=false)
 |0,_=>⟨zR _,fun i _ h=>by omega,fun i h=>by simp[Zu]at h⟩
 |j+1,hj=>by
  have z1:j<s.length:=by omega
  rw[Zu,zJ z1];simp only;by_cases hb:Vd (key x) (key s[j])=true
  ·rw[if_pos hb];obtain⟨h1,h2,h3⟩:=Kx s x j (by omega);refine⟨by omega,fun i hi z6 hl=> ?_,h3⟩;by_cases hij:i=j
   ·subst hij;exact hb
   ·exact h2 i hi (by omega) hl
  ·rw[if_neg hb];refine⟨zR _,fun i hi z6=>by omega,fun i hi hl=> ?_⟩;have:i=j:=by omega
   subst this;simpa using hb
theorem g0l(s:List α)(x:α):(c0l key s x).Perm (x::s):=by unfold c0l;refine vE.trans ?_;rw[xW]
theorem Nf{s:List α}{x:α}(hs:s.Pairwise (ltG key))(hd:∀y∈s,key y≠key x):(c0l key s x).Pairwise (ltG key):=by
 obtain⟨h1,h2,h3⟩:=Kx key s x s.length (zR _);unfold c0l;generalize Zu key s x s.length=k at *
 have z1:=hs;rw[←xW k s]at z1;obtain⟨p1,p2,p3⟩:=yH.1 z1;have z7:∀y∈s.drop k,ltG key x y:=fun y hy=>by obtain⟨i,hi⟩:=yE.1 hy;rw[List.getElem?_drop]at hi;obtain⟨hl,e⟩:=zB.1 hi;have:=h2 (k+i) (by omega) hl hl;rw[e]at this;exact(Ry _ _).1 this
 have z8:∀i,i+1=k→∀h:i<s.length,ltG key s[i] x:=fun i hi hl=>by
  have h4:=h3 i hi hl;have zc:=hd s[i] (zL hl);unfold ltG;rcases vP (key s[i]).1 (key x).1 with a|a|a
  ·exact .inl a
  ·rcases Int.lt_trichotomy (key s[i]).2 (key x).2 with b|b|b
   ·exact .inr ⟨a,b⟩
   ·exact absurd (ua a b) zc
   ·have:Vd (key x) (key s[i])=true:=(Ry _ _).2 (.inr ⟨a.symm,b⟩);rw[this]at h4;cases h4
  ·have:Vd (key x) (key s[i])=true:=(Ry _ _).2 (.inl a);rw[this]at h4;cases h4
 have z6:∀y∈s.take k,ltG key y x:=fun y hy=>by
  obtain⟨i,hi⟩:=yE.1 hy;rw[List.getElem?_take]at hi;split at hi
  ·rename_i zd;obtain⟨hl,e⟩:=zB.1 hi;obtain⟨k',rfl⟩:∃k',k=k'+1:=⟨k - 1,by omega⟩
   have za:k'<s.length:=by omega
   have zb:=z8 k' rfl za;by_cases hij:i=k'
   ·subst hij;rw[←e];exact zb
   ·have:=yQ.1 hs i k' hl za (by omega);rw[e]at this;exact U2.trans this zb
  ·cases hi
 refine yH.2 ⟨p1,yU.2 ⟨z7,p2⟩,fun y hy z hz=> ?_⟩;rcases yB.1 hz with rfl|hz
 ·exact z6 y hy
 ·exact p3 y hy z hz
theorem Kl(L:List α)(hd:L.Pairwise (fun p q=>key p≠key q)):(y1p key L).Perm L∧(y1p key L).Pairwise (ltG key):=by
 have go:∀(r s:List α),s.Pairwise (ltG key)→(s++r).Pairwise (fun p q=>key p≠key q)→(r.foldl (c0l key) s).Perm (s++r)∧(r.foldl (c0l key) s).Pairwise (ltG key):=by
  intro r;induction r with
  |nil=>intro s h _;simpa using h
  |cons x r ih=>intro s h hd;obtain⟨d1,d2,d3⟩:=yH.1 hd;have hi:=Nf key h (fun y hy=>d3 y hy x (by simp));have hp:=g0l key s x;have z1:(c0l key s x++r).Perm (s++x::r):=(hp.append_right r).trans (vE (l₁:=s) (a:=x) (l₂:=r)).symm;have z6:(c0l key s x++r).Pairwise (fun p q=>key p≠key q):=(z1.pairwise_iff (fun h=>Ne.symm h)).2 hd;obtain⟨i1,i2⟩:=ih (c0l key s x) hi z6;rw[xV];exact⟨i1.trans z1,i2⟩
 have h:=go L [] List.Pairwise.nil (by simpa using hd);unfold y1p;simpa using h
theorem x1h{l l':List α}(hs:l.Pairwise (ltG key))(z1:l'.Pairwise (ltG key))(hp:∀x,x∈l↔x∈l'):l=l':=by have z6:∀ {X:List α},X.Pairwise (ltG key)→X.Nodup:=fun hx=>hx.imp (fun h e=>by subst e;exact U2.irr h);refine List.Perm.eq_of_pairwise (le:=ltG key) (fun a b _ _ h k=>(U2.irr (h.trans k)).elim) hs z1 ?_;exact(List.perm_ext_iff_of_nodup (z6 hs) (z6 z1)).2 hp
end
def clD(cl:List Nat)(m:Mv):Nat:=cl.getD m.dst.toNat 0
def kyM(m:Mv):Nat×Int:=Qx m.on 0
def j13(a:Aut)(cl:List Nat)(s:Int):List Mv:=(Qw a s).foldl (fun g m=>Ts 0 g (clD cl m) m.on) []
def y16(a:Aut)(cl:List Nat)(s:Int):List Mv:=y1p kyM (j13 a cl s)
def Dy(a:Aut)(cl:List Nat)(s:Int)(t:Nat)(ty:Nat)(y:Int):Prop:=∃m∈Qw a s,clD cl m=t∧PM m.on ty y
structure MrgS (T:Nat) (D:Nat→Nat→Int→Prop) (g:List Mv):Prop where
 wf:∀m∈g,PWf T m.on
 src:∀m∈g,m.src=0
 dst:∀m∈g,∃t:Nat,m.dst=t
 nd:g.Pairwise (fun m k=>m.dst≠k.dst)
 mem:∀m∈g,∀t:Nat,m.dst=t→∀ty y,PM m.on ty y↔D t ty y
 all:∀t ty y,D t ty y→∃m∈g,m.dst=(t:Int)
 ne:∀m∈g,∃ty y,PM m.on ty y
theorem y1r{n to:Nat}{g:List Mv}{c:Prd}{T:Nat}(hg:∀m∈g,∃ty y,PM m.on ty y)(hw:∀m∈g,PWf T m.on)(hc:PWf T c)(z1:∃ty y,PM c ty y):∀m∈Ts n g to c,∃ty y,PM m.on ty y:=by
 intro m hm;unfold Ts at hm;split at hm
 ·rcases zU.1 hm with hm|hm
  ·exact hg m hm
  ·rw[zP.1 hm];exact z1
 ·split at hm
  ·rename_i m2 z6;rcases vF hm with hm|rfl
   ·exact hg m hm
   ·obtain⟨ty,y,h⟩:=z1;exact⟨ty,y,(Ab (hw _ (zH z6)) hc ty y).2 (.inr h)⟩
  ·exact hg m hm
theorem v1s{a:Aut}(h:WfA a){s:Int}{m:Mv}(hm:m∈Qw a s):PWf a.types.toNat m.on∧∃ty y,PM m.on ty y:=by obtain⟨h1,h2,h3⟩:=Eo.1 hm;exact⟨h.on m h1,(Yh (h.on m h1)).1 h3⟩
theorem C7{a:Aut}(ha:Dfa a)(cl:List Nat)(s:Int):MrgS a.types.toNat (Dy a cl s) (j13 a cl s):=by
 obtain⟨N,hN⟩:∃N,∀m∈Qw a s,clD cl m<N:=by
  refine⟨(cl.foldl max 0)+1,fun m _=> ?_⟩;have key:∀(l:List Nat) (b:Nat),b≤l.foldl max b∧∀x∈l,x≤l.foldl max b:=by
   intro l;induction l with
   |nil=>intro b;simp
   |cons x l ih=>
    intro b;obtain⟨h1,h2⟩:=ih (max b x);rw[xV];refine⟨by omega,fun y hy=> ?_⟩;rcases yB.1 hy with rfl|hy
    ·omega
    ·exact h2 y hy
  unfold clD;by_cases hl:m.dst.toNat<cl.length
  ·have:=(key cl 0).2 _ (zL hl);simp only[yS,zJ hl,wB];omega
  ·simp[yS,xA (by omega:cl.length≤m.dst.toNat)]
 have key:∀(r:List Mv) (D:Nat→Nat→Int→Prop) (g:List Mv),MInv a.types.toNat N 0 D g→(∀m∈g,∃ty y,PM m.on ty y)→(∀m∈r,m∈Qw a s)→
   MInv a.types.toNat N 0 (fun t ty y=>D t ty y∨∃m∈r,clD cl m=t∧PM m.on ty y) (r.foldl (fun g m=>Ts 0 g (clD cl m) m.on) g)∧∀m∈r.foldl (fun g m=>Ts 0 g (clD cl m) m.on) g,∃ty y,PM m.on ty y:=by
  intro r;induction r with
  |nil=>intro D g h hn _;exact⟨h.congr (fun t ty y=>by simp),hn⟩
  |cons c r ih=>
   intro D g h hn hr;rw[xV];have hc:=v1s ha.ok.wfA (hr c (by simp));obtain⟨i1,i2⟩:=ih _ _ (h.add (hN c (hr c (by simp))) hc.1 hc.2) (y1r hn h.wf hc.1 hc.2) (fun d hd=>hr d (by simp[hd]));refine⟨i1.congr (fun t ty y=> ?_),i2⟩;simp only[yB,exists_eq_or_imp,or_assoc];constructor
   ·rintro(h|⟨e,h⟩|h)
    ·exact .inl h
    ·exact .inr (.inl ⟨e.symm,h⟩)
    ·exact .inr (.inr h)
   ·rintro(h|⟨e,h⟩|h)
    ·exact .inl h
    ·exact .inr (.inl ⟨e.symm,h⟩)
    ·exact .inr (.inr h)
 have h0:MInv a.types.toNat N 0 (fun _ _ _=>False) []:=⟨by simp,by simp,by simp,by simp,by simp,fun _ _ _ h=>h.elim⟩
 obtain⟨h1,h2⟩:=key (Qw a s) _ [] h0 (by simp) (fun m hm=>hm);have h3:=h1.congr (D':=Dy a cl s) (fun t ty y=>by simp[Dy]);exact⟨h3.wf,h3.src,fun m hm=>by obtain⟨t,_,e⟩:=h3.dst m hm;exact⟨t,e⟩,h3.nd,h3.mem,h3.all,h2⟩
theorem MrgS.perm{T:Nat}{D:Nat→Nat→Int→Prop}{g g':List Mv}(h:MrgS T D g)(hp:g.Perm g'):MrgS T D g':=
 ⟨fun m hm=>h.wf m (hp.mem_iff.2 hm),fun m hm=>h.src m (hp.mem_iff.2 hm),fun m hm=>h.dst m (hp.mem_iff.2 hm),(hp.pairwise_iff (fun h=>Ne.symm h)).1 h.nd,fun m hm=>h.mem m (hp.mem_iff.2 hm),
  fun t ty y hd=>by obtain⟨m,hm,e⟩:=h.all t ty y hd;exact⟨m,hp.mem_iff.1 hm,e⟩,fun m hm=>h.ne m (hp.mem_iff.2 hm)⟩
theorem MrgS.sub{T:Nat}{D:Nat→Nat→Int→Prop}{g g':List Mv}(h:MrgS T D g)(h':MrgS T D g'){m:Mv}(hm:m∈g):m∈g':=by
 obtain⟨t,ht⟩:=h.dst m hm;obtain⟨ty,y,hy⟩:=h.ne m hm;obtain⟨k,hk,z1⟩:=h'.all t ty y ((h.mem m hm t ht ty y).1 hy);have z6:m.on=k.on:=I1 (h.wf m hm) (h'.wf k hk) fun t' n'=>by rw[h.mem m hm t ht,h'.mem k hk t z1]
 have:m=k:=by cases m;cases k;simp only at ht z1 z6;have e1:=h.src _ hm;have e2:=h'.src _ hk;simp only at e1 e2;subst z6;rw[e1,e2,ht,z1]
 rw[this];exact hk
theorem MrgS.apart{T:Nat}{D:Nat→Nat→Int→Prop}{g:List Mv}(h:MrgS T D g)(hD:∀t t' ty y,D t ty y→D t' ty y→t=t'):g.Pairwise (fun p q=>kyM p≠kyM q):=
 h.nd.imp_of_mem fun {p q} hp hq z1 e=>by obtain⟨t,ht⟩:=h.dst p hp;obtain⟨u,hu⟩:=h.dst q hq;have h1:=(W3 (h.wf p hp) (h.ne p hp)).1;have h2:=(W3 (h.wf q hq) (h.ne q hq)).1;unfold kyM at e;rw[e]at h1;have:=hD t u _ _ ((h.mem p hp t ht _ _).1 h1) ((h.mem q hq u hu _ _).1 h2);rw[ht,hu,this]at z1;exact z1 rfl
theorem MrgS.uniq{T:Nat}{D:Nat→Nat→Int→Prop}{g g':List Mv}(h:MrgS T D g)(h':MrgS T D g')(s:g.Pairwise (ltG kyM))(s':g'.Pairwise (ltG kyM)):g=g':=
 x1h kyM s s' fun _=>⟨h.sub h',h'.sub h⟩
theorem Dfa.dom{a:Aut}(ha:Dfa a){cl:List Nat}{s:Int}{t ty:Nat}{y:Int}:Dy a cl s t ty y↔(∃x:Sy,Wv a x∧x.ty.toNat=ty∧x.num=y∧∃m∈a.mv,m.src=s∧E8 m.on x=true∧cl.getD m.dst.toNat 0=t):=by
 constructor
 ·rintro⟨m,hm,h1,h2⟩;obtain⟨g1,g2,g3⟩:=Eo.1 hm;obtain⟨z6,z1⟩:=(ha.ok.wfA.on m g1).lt h2;have hx:Wv a ⟨ty,y⟩:=⟨⟨by simp,by have:=ha.ok.types;simp;omega⟩,z1⟩
  exact⟨⟨ty,y⟩,hx,by simp,rfl,m,g1,g2,(Ri ha.ok.wfA g1 hx).2 (by simpa using h2),h1⟩
 ·rintro⟨x,hx,rfl,rfl,m,hm,h1,h2,h3⟩;have hp:=(Ri ha.ok.wfA hm hx).1 h2;exact⟨m,Eo.2 ⟨hm,h1,(Yh (ha.ok.wfA.on m hm)).2 ⟨_,_,hp⟩⟩,h3,hp⟩
theorem U8{a:Aut}(ha:Dfa a){cl:List Nat}{s:Int}(hs:inS a s){t ty:Nat}{y:Int}:Dy a cl s t ty y↔∃x:Sy,Wv a x∧x.ty.toNat=ty∧x.num=y∧cl.getD (toL a s x).toNat 0=t:=by
 rw[ha.dom];constructor
 ·rintro⟨x,hx,h1,h2,m,hm,rfl,h4,h5⟩;exact⟨x,hx,h1,h2,by rw[ha.to_of hm hx h4];exact h5⟩
 ·rintro⟨x,hx,h1,h2,h3⟩;obtain⟨m,hm,e1,e2,e3⟩:=ha.move hs hx;exact⟨x,hx,h1,h2,m,hm,e1,e2,by rw[e3];exact h3⟩
theorem u1z{x y:Sy}{a:Aut}(hx:Wv a x)(hy:Wv a y)(h:x.ty.toNat=y.ty.toNat)(h2:x.num=y.num):x=y:=by
 have:=hx.1.1;have:=hy.1.1;cases x;cases y;simp only at *
 have:∀ {a b:Int},0≤a→0≤b→a.toNat=b.toNat→a=b:=fun h0 h1 h=>by omega
 simp only[Sy.mk.injEq];exact⟨this ‹_› ‹_› h,h2⟩
theorem Zz{a:Aut}(ha:Dfa a){cl:List Nat}{s:Int}(hs:inS a s){t t' ty:Nat}{y:Int}(h:Dy a cl s t ty y)(h':Dy a cl s t' ty y):t=t':=by obtain⟨x,hx,h1,h2,h3⟩:=(U8 ha hs).1 h;obtain⟨x',z1,z6,z7,z8⟩:=(U8 ha hs).1 h';have:x=x':=u1z hx z1 (h1.trans z6.symm) (h2.trans z7.symm);subst this;exact h3.symm.trans z8
theorem Tk{a:Aut}(ha:Dfa a)(cl:List Nat){s:Int}(hs:inS a s):MrgS a.types.toNat (Dy a cl s) (y16 a cl s)∧(y16 a cl s).Pairwise (ltG kyM):=by have h:=C7 ha cl s;obtain⟨h1,h2⟩:=Kl kyM (j13 a cl s) (h.apart fun t t' ty y=>Zz ha hs);exact⟨h.perm h1.symm,h2⟩
def O1(a:Aut)(cl:List Nat)(s:Int)(t:Nat):List Prd:=((Qw a s).filter fun m=>decide (clD cl m=t)).map (·.on)
theorem u07{a:Aut}(ha:Dfa a)(cl:List Nat)(s:Int){ks:List Nat}(z7:ks.Nodup)(hk:∀t,t∈ks↔∃m∈Qw a s,clD cl m=t):
  MrgS a.types.toNat (Dy a cl s) (ks.map fun t:Nat=>(⟨0,(t:Int),Uz a.types.toNat (O1 a cl s t)⟩:Mv)):=by
 have z1:∀t,∀p∈O1 a cl s t,PWf a.types.toNat p:=fun t p hp=>by obtain⟨m,hm,rfl⟩:=zT.1 hp;exact(v1s ha.ok.wfA (xM.1 hm).1).1
 have z6:∀t ty y,PM (Uz a.types.toNat (O1 a cl s t)) ty y↔Dy a cl s t ty y:=fun t ty y=>by
  rw[Cu (z1 t)];constructor
  ·rintro⟨p,hp,h⟩;obtain⟨m,hm,rfl⟩:=zT.1 hp;obtain⟨h1,h2⟩:=xM.1 hm;exact⟨m,h1,by simpa using h2,h⟩
  ·rintro⟨m,hm,h1,h2⟩;exact⟨m.on,zT.2 ⟨m,xM.2 ⟨hm,by simpa using h1⟩,rfl⟩,h2⟩
 refine⟨fun m hm=> ?_,fun m hm=> ?_,fun m hm=> ?_,?_,fun m hm t e ty y=> ?_,fun t ty y hd=> ?_,fun m hm=> ?_⟩
 ·obtain⟨t,_,rfl⟩:=zT.1 hm;exact Jz (z1 t)
 ·obtain⟨t,_,rfl⟩:=zT.1 hm;rfl
 ·obtain⟨t,_,rfl⟩:=zT.1 hm;exact⟨t,rfl⟩
 ·exact xZ.2 (z7.imp fun h e=>h (Int.ofNat.inj e))
 ·obtain⟨u,_,rfl⟩:=zT.1 hm;have:u=t:=Int.ofNat.inj e;subst this;exact z6 u ty y
 ·obtain⟨m,hm,h1,h2⟩:=hd;exact⟨_,zT.2 ⟨t,(hk t).2 ⟨m,hm,h1⟩,rfl⟩,rfl⟩
 ·obtain⟨t,ht,rfl⟩:=zT.1 hm;obtain⟨m,hm,h1⟩:=(hk t).1 ht;obtain⟨ty,y,hp⟩:=(v1s ha.ok.wfA hm).2;exact⟨ty,y,(z6 t ty y).2 ⟨m,hm,h1,hp⟩⟩
end Go.Abs
namespace Go.Abs
def x1z(cl:List Nat)(t:Nat):Nat:=(cl.findIdx? fun c=>decide (c=t)).getD 0
def F0(a:Aut)(t:Nat):Prop:=t<(fsA a).length
def Wn(a:Aut)(s:Int):Nat:=(clA a).getD s.toNat 0
def R7(a:Aut)(t:Nat):Nat:=x1z (clA a) t
theorem Ak{a:Aut}{s:Int}(h:inS a s):s.toNat<a.fin.length∧((s.toNat:Nat):Int)=s:=by unfold inS at h;omega
theorem Rg{a:Aut}(ha:Dfa a){t:Nat}(ht:F0 a t):R7 a t<a.fin.length∧Wn a (R7 a t)=t:=by
 have h:=j15 ha;have hf:=h.first (x1b ha) (zJ ht);have hr:R7 a t=(fsA a)[t]:=by rw[R7,x1z,hf];rfl
 rw[xF]at hf;obtain⟨h1,h2,_⟩:=hf;rw[hr];refine⟨by rw[h.len]at h1;exact h1,?_⟩;simp only[Wn,vA,yS,zJ h1,wB];simpa using h2
theorem R5{a:Aut}(ha:Dfa a){t:Nat}(ht:F0 a t):inS a (R7 a t:Int):=Pz (Rg ha ht).1
theorem Pb{a:Aut}(ha:Dfa a){s:Int}(hs:inS a s):F0 a (Wn a s):=(j15 ha).lt_fs (Ak hs).1
theorem S0{a:Aut}(ha:Dfa a){s t:Int}(hs:inS a s)(ht:inS a t):Wn a s=Wn a t↔eqW a a s t:=by have h1:=Ak hs;have h2:=Ak ht;rw[Wn,Wn,c05 ha h1.1 h2.1,h1.2,h2.2]
theorem Jx{a:Aut}(ha:Dfa a){s:Int}(hs:inS a s):eqW a a (R7 a (Wn a s)) s:=
 (S0 ha (R5 ha (Pb ha hs)) hs).1 (Rg ha (Pb ha hs)).2
theorem eqW.symm{a:Aut}{s t:Int}(h:eqW a a s t):eqW a a t s:=fun w hw=>(h w hw).symm
theorem eqW.step{a b:Aut}{s t:Int}(h:eqW a b s t){x:Sy}(hx:Wv a x):eqW a b (toL a s x) (toL b t x):=fun w hw=>h (x::w) (fun y hy=>by
 rcases yB.1 hy with rfl|hy
 ·exact hx
 ·exact hw y hy)
def Sl(o:List Nat)(c:Nat):List Nat:=if c∈o then o else o++[c]
def Wf(o:List Nat)(l:List Mv):List Nat:=l.foldl (fun o m=>Sl o m.dst.toNat) o
def Tv(a:Aut)(t:Nat):List Mv:=y16 a (clA a) (R7 a t:Int)
def Yg(a:Aut):Nat→Nat→List Nat→List Nat
 |0,_,o=>o
 |f+1,n,o=>match o[n]? with
  |none=>o
  |some c=>Yg a f (n+1) (Wf o (Tv a c))
def Yn(a:Aut):List Nat:=Yg a (a.fin.length+1) 0 [Wn a 0]
def Dw(o:List Nat)(c:Nat):Nat:=(o.findIdx? fun d=>decide (d=c)).getD 0
def mvN(a:Aut)(o:List Nat)(n:Nat):List Mv:=(Tv a (o.getD n 0)).map fun m=>⟨n,(Dw o m.dst.toNat:Int),m.on⟩
def O5(a:Aut)(o:List Nat):Aut:=⟨a.types,o.map fun c=>a.fin.getD (R7 a c) false,(yL o.length).flatMap (mvN a o)⟩
def Q5(a:Aut):Aut:=O5 a (Yn a)
theorem D7(o:List Nat)(c:Nat):∃r,Sl o c=o++r∧∀x∈r,x=c:=by
 unfold Sl;split
 ·exact⟨[],by simp,by simp⟩
 ·exact⟨[c],rfl,fun x hx=>zP.1 hx⟩
theorem w0w(o:List Nat)(c:Nat):c∈Sl o c:=by
 unfold Sl;split
 ·assumption
 ·simp
theorem y0q{o:List Nat}(h:o.Nodup)(c:Nat):(Sl o c).Nodup:=by
 unfold Sl;split
 ·exact h
 ·rename_i hc;exact vG.2 ⟨h,by simp,fun x hx y hy e=>by rw[zP.1 hy]at e;exact hc (e▸hx)⟩
theorem Yi:∀(l:List Mv) (o:List Nat),o.Nodup→(∃r,Wf o l=o++r∧∀x∈r,∃m∈l,x=m.dst.toNat)∧(Wf o l).Nodup∧∀m∈l,m.dst.toNat∈Wf o l
 |[],o,h=>⟨⟨[],by simp[Wf],by simp⟩,h,by simp⟩
 |m::l,o,h=>by
  obtain⟨⟨r,h1,h2⟩,h3,h4⟩:=Yi l (Sl o m.dst.toNat) (y0q h _);obtain⟨r',h5,h6⟩:=D7 o m.dst.toNat;have he:Wf o (m::l)=Wf (Sl o m.dst.toNat) l:=rfl;rw[he];refine⟨⟨r'++r,by rw[h1,h5,xP],fun x hx=> ?_⟩,h3,fun k hk=> ?_⟩
  ·rcases zU.1 hx with hx|hx
   ·exact⟨m,by simp,h6 x hx⟩
   ·obtain⟨k,hk,e⟩:=h2 x hx;exact⟨k,by simp[hk],e⟩
  ·rcases yB.1 hk with rfl|hk
   ·rw[h1];exact yY _ (w0w _ _)
   ·exact h4 k hk
theorem Yq{a:Aut}(ha:Dfa a){t:Nat}(ht:F0 a t){m:Mv}(hm:m∈Tv a t):∃x,Wv a x∧m.dst=(Wn a (toL a (R7 a t) x):Nat)∧inS a (toL a (R7 a t) x)∧F0 a (Wn a (toL a (R7 a t) x))∧PM m.on x.ty.toNat x.num:=by have hs:=R5 ha ht;have h:=(Tk ha (clA a) hs).1;obtain⟨u,hu⟩:=h.dst m hm;obtain⟨ty,y,hy⟩:=h.ne m hm;obtain⟨x,hx,rfl,rfl,h3⟩:=(U8 ha hs).1 ((h.mem m hm u hu ty y).1 hy);have z1:=(ha.next hs hx).1;exact⟨x,hx,by rw[hu,←h3];rfl,z1,Pb ha z1,hy⟩
structure OrdS (a:Aut) (o:List Nat):Prop where
 first:o[0]? =some (Wn a 0)
 nd:o.Nodup
 cl:∀c∈o,F0 a c
 closed:∀c∈o,∀m∈Tv a c,m.dst.toNat∈o
theorem u04{a:Aut}(ha:Dfa a):(fsA a).length≤a.fin.length:=by
 have h:=j15 ha;have z1:(fsA a).Nodup:=h.asc.imp fun h e=>by omega
 have:=z1.length_le_of_subset (l₂:=yL a.fin.length) fun r hr=>yV.2 (h.lt r hr);simpa using this
theorem Zo{a:Aut}(ha:Dfa a){o:List Nat}(hn:o.Nodup)(hc:∀c∈o,F0 a c):o.length≤a.fin.length:=by have:=hn.length_le_of_subset (l₂:=yL (fsA a).length) fun c hx=>yV.2 (hc c hx);have h2:=u04 ha;simp at this;omega
theorem Vi{a:Aut}(ha:Dfa a):∀(f n:Nat) (o:List Nat),a.fin.length+1≤n+f→n≤o.length→o[0]? =some (Wn a 0)→o.Nodup→(∀c∈o,F0 a c)→(∀i c,i<n→o[i]? =some c→∀m∈Tv a c,m.dst.toNat∈o)→OrdS a (Yg a f n o)
 |0,n,o,hf,hn,h0,z6,z1,hc=>by have:=Zo ha z6 z1;omega
 |f+1,n,o,hf,hn,h0,z6,z1,hc=>by
  unfold Yg;cases hon:o[n]? with
  |none=>
   simp only;have hl:o.length≤n:=by simpa using hon
   refine⟨h0,z6,z1,fun c hx m hm=> ?_⟩;obtain⟨i,hi⟩:=yE.1 hx;exact hc i c (by have:=Wz hi;omega) hi m hm
  |some c=>
   simp only;have z8:=Wz hon;obtain⟨⟨r,h1,h2⟩,h3,h4⟩:=Yi (Tv a c) o z6;have z7:=z1 c (zH hon);refine Vi ha f (n+1) _ (by omega) (by rw[h1,z_];omega) ?_ h3 (fun d hd=> ?_) fun i d hi hd m hm=> ?_
   ·rw[h1,zF (by omega)];exact h0
   ·rw[h1]at hd;rcases zU.1 hd with hd|hd
    ·exact z1 d hd
    ·obtain⟨m,hm,e⟩:=h2 d hd;obtain⟨x,_,e2,_,e4,_⟩:=Yq ha z7 hm;rw[e,e2];simpa using e4
   ·rw[h1,zF (by omega)]at hd;by_cases e:i=n
    ·subst e;rw[hon]at hd;cases hd;exact h4 m hm
    ·rw[h1];exact yY _ (hc i d (by omega) hd m hm)
theorem E5{a:Aut}(ha:Dfa a):OrdS a (Yn a):=
 Vi ha _ 0 _ (by omega) (by simp) rfl (by simp) (fun c hc=>by rw[zP.1 hc];exact Pb ha ha.zero) (fun i c hi=>by omega)
section
variable {a b:Aut} (ha:Dfa a) (hb:Dfa b) (ht:b.types=a.types)
def N9(a b:Aut)(c d:Nat):Prop:=F0 a c∧F0 b d∧eqW a b (R7 a c) (R7 b d)
structure LkO (a b:Aut) (o o':List Nat):Prop where
 len:o.length=o'.length
 k:∀(i c d:Nat),o[i]? =some c→o'[i]? =some d→N9 a b c d
theorem Tt{a b:Aut}(ht:b.types=a.types){x:Sy}:Wv b x↔Wv a x:=by unfold Wv;rw[ht]
include ha hb ht
theorem F6{c d d':Nat}(h:N9 a b c d)(h':N9 a b c d'):d=d':=by
 have e:Wn b (R7 b d)=Wn b (R7 b d'):=(S0 hb (R5 hb h.2.1) (R5 hb h'.2.1)).2 fun w hw=>by have z1:∀x∈w,Wv a x:=fun x hx=>(Tt ht).1 (hw x hx);exact(h.2.2 w z1).symm.trans (h'.2.2 w z1)
 rw[(Rg hb h.2.1).2,(Rg hb h'.2.1).2]at e;exact e
theorem Sv{c c' d:Nat}(h:N9 a b c d)(h':N9 a b c' d):c=c':=by have e:Wn a (R7 a c)=Wn a (R7 a c'):=(S0 ha (R5 ha h.1) (R5 ha h'.1)).2 fun w hw=>(h.2.2 w hw).trans (h'.2.2 w hw).symm;rw[(Rg ha h.1).2,(Rg ha h'.1).2]at e;exact e
theorem u01{s t:Int}(hs:inS a s)(z1:inS b t)(h:eqW a b s t):N9 a b (Wn a s) (Wn b t):=
 ⟨Pb ha hs,Pb hb z1,fun w hw=>((Jx ha hs w hw).trans (h w hw)).trans (Jx hb z1 w fun x hx=>(Tt ht).2 (hw x hx)).symm⟩
theorem LkO.mem{o o':List Nat}(h:LkO a b o o'){c d:Nat}(hk:N9 a b c d):c∈o↔d∈o':=by
 constructor
 ·intro hc;obtain⟨i,hi⟩:=yE.1 hc;have hl:=Wz hi;have hl':i<o'.length:=by have:=h.len;omega
  have hd:=zJ hl';rw[F6 ha hb ht hk (h.k i c _ hi hd)];exact zL hl'
 ·intro hd;obtain⟨i,hi⟩:=yE.1 hd;have hl:=Wz hi;have hl':i<o.length:=by have:=h.len;omega
  have hc:=zJ hl';rw[Sv ha hb ht hk (h.k i _ d hc hi)];exact zL hl'
theorem LkO.step{o o':List Nat}(h:LkO a b o o'){c d:Nat}(hk:N9 a b c d):LkO a b (Sl o c) (Sl o' d):=by
 unfold Sl;have hm:=h.mem ha hb ht hk;by_cases hc:c∈o
 ·rw[if_pos hc,if_pos (hm.1 hc)];exact h
 ·rw[if_neg hc,if_neg (fun hd=>hc (hm.2 hd))];refine⟨by simp[h.len],fun i x y hx hy=> ?_⟩;by_cases hi:i<o.length
  ·rw[zF hi]at hx;rw[zF (by rw[←h.len];exact hi)]at hy;exact h.k i x y hx hy
  ·have z1:=Wz hx;simp at z1;have:i=o.length:=by omega
   subst this;rw[zK (by omega)]at hx;rw[zK (by rw[h.len];omega)]at hy;simp[h.len]at hx hy;rw[←hx,←hy];exact hk
theorem q0g{c d:Nat}(h:N9 a b c d):(Tv a c).map (·.on)=(Tv b d).map (·.on)∧∀(i:Nat) (m k:Mv),(Tv a c)[i]? =some m→(Tv b d)[i]? =some k→m.on=k.on∧N9 a b m.dst.toNat k.dst.toNat:=by
 have hs:=R5 ha h.1;have z7:=R5 hb h.2.1;obtain⟨g1,s1⟩:=Tk ha (clA a) hs;obtain⟨g2,s2⟩:=Tk hb (clA b) z7;have key:∀x,Wv a x→N9 a b (Wn a (toL a (R7 a c) x)) (Wn b (toL b (R7 b d) x)):=fun x hx=>
  u01 ha hb ht (ha.next hs hx).1 (hb.next z7 ((Tt ht).2 hx)).1 (h.2.2.step hx)
 have z6:∀(m:Mv) (k:Mv) (x:Sy),m∈Tv a c→k∈Tv b d→Wv a x→PM m.on x.ty.toNat x.num→PM k.on x.ty.toNat x.num→m.on=k.on∧N9 a b m.dst.toNat k.dst.toNat:=by
  intro m k x hm hk hx p1 p2;obtain⟨u,hu⟩:=g1.dst m hm;obtain⟨v,hv⟩:=g2.dst k hk;have zb:∀(z:Sy),Wv a z→(PM m.on z.ty.toNat z.num↔Wn a (toL a (R7 a c) z)=u):=fun z hz=>by
   rw[g1.mem m hm u hu,U8 ha hs];constructor
   ·rintro⟨z',zc,e1,e2,e3⟩;rw[←u1z zc hz e1 e2];exact e3
   ·intro e;exact⟨z,hz,rfl,rfl,e⟩
  have zd:∀(z:Sy),Wv a z→(PM k.on z.ty.toNat z.num↔Wn b (toL b (R7 b d) z)=v):=fun z hz=>by
   rw[g2.mem k hk v hv,U8 hb z7];constructor
   ·rintro⟨z',zc,e1,e2,e3⟩;rw[←u1z zc ((Tt ht).2 hz) e1 e2];exact e3
   ·intro e;exact⟨z,(Tt ht).2 hz,rfl,rfl,e⟩
  have ze:N9 a b u v:=by have:=key x hx;rw[(zb x hx).1 p1,(zd x hx).1 p2]at this;exact this
  have zf:=g2.wf k hk;rw[ht]at zf;refine⟨I1 (g1.wf m hm) zf fun t n=> ?_,by rw[hu,hv];simpa using ze⟩;have zg:∀ {p:Prd},PWf a.types.toNat p→PM p t n→Wv a ⟨t,n⟩:=fun hp zh=>by obtain⟨zm,zi⟩:=hp.lt zh;exact⟨⟨by simp,by have:=ha.ok.types;simp;omega⟩,zi⟩
  constructor
  ·intro hp;have hz:=zg (g1.wf m hm) hp;have e1:=(zb ⟨t,n⟩ hz).1 (by simpa using hp);have:=key ⟨t,n⟩ hz;rw[e1]at this;have e2:=F6 ha hb ht this ze;simpa using(zd ⟨t,n⟩ hz).2 e2
  ·intro hp;have hz:=zg zf hp;have e1:=(zd ⟨t,n⟩ hz).1 (by simpa using hp);have:=key ⟨t,n⟩ hz;rw[e1]at this;have e2:=Sv ha hb ht this ze;simpa using(zb ⟨t,n⟩ hz).2 e2
 have zj:∀m∈Tv a c,∃k∈Tv b d,∃x,Wv a x∧PM m.on x.ty.toNat x.num∧PM k.on x.ty.toNat x.num:=fun m hm=>by obtain⟨x,hx,_,_,_,hp⟩:=Yq ha h.1 hm;have za:=(Tt ht).2 hx;obtain⟨k,hk,e⟩:=g2.all _ x.ty.toNat x.num ((U8 hb z7).2 ⟨x,za,rfl,rfl,rfl⟩);exact⟨k,hk,x,hx,hp,(g2.mem k hk _ e _ _).2 ((U8 hb z7).2 ⟨x,za,rfl,rfl,rfl⟩)⟩
 have z8:∀k∈Tv b d,∃m∈Tv a c,∃x,Wv a x∧PM m.on x.ty.toNat x.num∧PM k.on x.ty.toNat x.num:=fun k hk=>by obtain⟨x,za,_,_,_,hp⟩:=Yq hb h.2.1 hk;have hx:=(Tt ht).1 za;obtain⟨m,hm,e⟩:=g1.all _ x.ty.toNat x.num ((U8 ha hs).2 ⟨x,hx,rfl,rfl,rfl⟩);exact⟨m,hm,x,hx,(g1.mem m hm _ e _ _).2 ((U8 ha hs).2 ⟨x,hx,rfl,rfl,rfl⟩),hp⟩
 have z1:(Tv a c).map (·.on)=(Tv b d).map (·.on):=by
  refine x1h (fun p:Prd=>Qx p 0) (xZ.2 s1) (xZ.2 s2) fun p=> ?_;constructor
  ·intro hp;obtain⟨m,hm,rfl⟩:=zT.1 hp;obtain⟨k,hk,x,hx,p1,p2⟩:=zj m hm;exact zT.2 ⟨k,hk,(z6 m k x hm hk hx p1 p2).1.symm⟩
  ·intro hp;obtain⟨k,hk,rfl⟩:=zT.1 hp;obtain⟨m,hm,x,hx,p1,p2⟩:=z8 k hk;exact zT.2 ⟨m,hm,(z6 m k x hm hk hx p1 p2).1⟩
 refine⟨z1,fun i m k hi hk=> ?_⟩;have zk:m.on=k.on:=by have e:=congrArg (fun l=>l[i]?) z1;simp only[zW,hi,hk,Option.map_some,Option.some.injEq]at e;exact e
 have hm:=zH hi;have zl:=zH hk;obtain⟨x,hx,_,_,_,hp⟩:=Yq ha h.1 hm;exact z6 m k x hm zl hx hp (zk▸hp)
theorem LkO.all:∀(l l':List Mv) (o o':List Nat),l.length=l'.length→(∀(i:Nat) (m k:Mv),l[i]? =some m→l'[i]? =some k→N9 a b m.dst.toNat k.dst.toNat)→LkO a b o o'→LkO a b (Wf o l) (Wf o' l')
 |[],[],_,_,_,_,h=>h
 |[],_::_,_,_,hl,_,_=>by simp at hl
 |_::_,[],_,_,hl,_,_=>by simp at hl
 |m::l,k::l',o,o',hl,hk,h=>LkO.all l l' _ _ (by simpa using hl) (fun i x y hx hy=>hk (i+1) x y (by simpa using hx) (by simpa using hy)) (h.step ha hb ht (hk 0 m k rfl rfl))
theorem LkO.bfs:∀(f n:Nat) (o o':List Nat),LkO a b o o'→LkO a b (Yg a f n o) (Yg b f n o')
 |0,_,_,_,h=>h
 |f+1,n,o,o',h=>by
  unfold Yg;cases hc:o[n]? with
  |none=>
   have:o'[n]? =none:=by rw[List.getElem?_eq_none_iff]at hc ⊢;rw[←h.len];exact hc
   rw[this];exact h
  |some c=>
   have hl:=Wz hc;have hl':n<o'.length:=by rw[←h.len];exact hl
   rw[zJ hl'];simp only;have hk:=h.k n c _ hc (zJ hl');obtain⟨e1,e2⟩:=q0g ha hb ht hk;have hlen:(Tv a c).length=(Tv b o'[n]).length:=by have:=congrArg vS e1;simpa using this
   exact LkO.bfs f (n+1) _ _ (LkO.all ha hb ht _ _ _ _ hlen (fun i m k hi hk=>(e2 i m k hi hk).2) h)
end
theorem Pv{a:Aut}(ha:Dfa a):∀(f n:Nat) (o:List Nat),a.fin.length+1≤n+f→n≤o.length→o.Nodup→(∀c∈o,F0 a c)→∀g,Yg a (f+g) n o=Yg a f n o
 |0,n,o,hf,hn,z6,z1,g=>by have:=Zo ha z6 z1;omega
 |f+1,n,o,hf,hn,z6,z1,g=>by
  have e:f+1+g=(f+g)+1:=by omega
  rw[e];unfold Yg;cases hon:o[n]? with
  |none=>rfl
  |some c=>
   simp only;have z8:=Wz hon;obtain⟨⟨r,h1,h2⟩,h3,h4⟩:=Yi (Tv a c) o z6;have z7:=z1 c (zH hon);refine Pv ha f (n+1) _ (by omega) (by rw[h1,z_];omega) h3 (fun d hd=> ?_) g;rw[h1]at hd;rcases zU.1 hd with hd|hd
   ·exact z1 d hd
   ·obtain⟨m,hm,e⟩:=h2 d hd;obtain⟨x,_,e2,_,e4,_⟩:=Yq ha z7 hm;rw[e,e2];simpa using e4
theorem z14{a b:Aut}(ha:Dfa a)(hb:Dfa b)(ht:b.types=a.types){o o':List Nat}(h:LkO a b o o'){c d:Nat}(hk:N9 a b c d):Dw o c=Dw o' d:=by
 have z1:∀(i:Nat) (x y:Nat),o[i]? =some x→o'[i]? =some y→(decide (x=c)=decide (y=d)):=fun i x y hx hy=>by
  have:=h.k i x y hx hy;rw[decide_eq_decide];constructor
  ·intro e;subst e;exact F6 ha hb ht this hk
  ·intro e;subst e;exact Sv ha hb ht this hk
 have key:∀(o o':List Nat),o.length=o'.length→(∀(i:Nat) (x y:Nat),o[i]? =some x→o'[i]? =some y→(decide (x=c)=decide (y=d)))→(o.findIdx? fun e=>decide (e=c))=(o'.findIdx? fun e=>decide (e=d)):=by
  intro o;induction o with
  |nil=>
   intro o' hl _;cases o' with
   |nil=>rfl
   |cons y o'=>simp at hl
  |cons x o ih=>
   intro o' hl hf;cases o' with
   |nil=>simp at hl
   |cons y o'=>rw[tn,tn,hf 0 x y rfl rfl,ih o' (by simpa using hl) fun i u v hu hv=>hf (i+1) u v (by simpa using hu) (by simpa using hv)]
 unfold Dw;rw[key o o' h.len z1]
theorem x0y{a b:Aut}(ha:Dfa a)(hb:Dfa b)(ht:b.types=a.types)(hw:eqW a b 0 0):Q5 a=Q5 b:=by
 have h0:LkO a b [Wn a 0] [Wn b 0]:=⟨rfl,fun i c d hc hd=>by
  have hi:=Wz hc;simp at hi;subst hi;simp at hc hd;rw[←hc,←hd];exact u01 ha hb ht ha.zero hb.zero hw⟩
 have z1:∀ {x:Aut},Dfa x→∀c∈[Wn x 0],F0 x c:=fun hx c hc=>by rw[zP.1 hc];exact Pb hx hx.zero
 have hL:LkO a b (Yn a) (Yn b):=by have h1:=LkO.bfs ha hb ht (a.fin.length+1+b.fin.length) 0 _ _ h0;rw[show a.fin.length+1+b.fin.length=b.fin.length+1+a.fin.length by omega]at h1;have e2:=Pv hb (b.fin.length+1) 0 [Wn b 0] (by omega) (by simp) (by simp) (z1 hb) a.fin.length;rw[e2,show b.fin.length+1+a.fin.length=a.fin.length+1+b.fin.length by omega,Pv ha (a.fin.length+1) 0 [Wn a 0] (by omega) (by simp) (by simp) (z1 ha) b.fin.length]at h1;exact h1
 have z7:∀n,n<(Yn a).length→mvN a (Yn a) n=mvN b (Yn b) n:=fun n hn=>by
  have z6:n<(Yn b).length:=by rw[←hL.len];exact hn
  have hk:=hL.k n _ _ (zJ hn) (zJ z6);obtain⟨e1,e2⟩:=q0g ha hb ht hk;have g1:(Yn a).getD n 0=(Yn a)[n]:=by simp[yS,hn]
  have g2:(Yn b).getD n 0=(Yn b)[n]:=by simp[yS,z6]
  unfold mvN;rw[g1,g2];have hlen:(Tv a (Yn a)[n]).length=(Tv b (Yn b)[n]).length:=by have:=congrArg vS e1;simpa using this
  refine wD (by simpa using hlen) fun i h1 h2=> ?_;simp only[yK]at h1 h2;obtain⟨e3,e4⟩:=e2 i _ _ (zJ h1) (zJ h2);simp only[u9];rw[e3,z14 ha hb ht hL e4]
 unfold Q5 O5;rw[ht]
 congr 1
 ·refine wD (by simpa using hL.len) fun i h1 h2=> ?_;simp only[yK]at h1 h2;have hk:=hL.k i _ _ (zJ h1) (zJ h2);simp only[u9];have:=hk.2.2 [] (by simp);simpa[Jd,stF]using this
 ·rw[←hL.len];rw[uJ,uJ]
  congr 1
  exact xL fun n hn=>z7 n (yV.1 hn)
end Go.Abs
namespace Go.Abs
theorem x1o{α:Type}{l:List α}(h:l.Nodup){i j:Nat}(hi:i<l.length)(hj:j<l.length)(e:l[i]=l[j]):i=j:=by
 rcases vP i j with k|k|k
 ·exact absurd e (yQ.1 h i j hi hj k)
 ·exact k
 ·exact absurd e.symm (yQ.1 h j i hj hi k)
theorem Zm{o:List Nat}(hn:o.Nodup){i c:Nat}(h:o[i]? =some c):Dw o c=i:=by
 unfold Dw;have:(o.findIdx? fun d=>decide (d=c))=some i:=x0i h (by simp) fun i j x y hx hy e1 e2=>by
  have e3:x=c:=by simpa using e1
  have e4:y=c:=by simpa using e2
  subst e3 e4;obtain⟨hi,e5⟩:=zB.1 hx;obtain⟨hj,e6⟩:=zB.1 hy;exact x1o hn hi hj (e5.trans e6.symm)
 rw[this];rfl
theorem Zl{o:List Nat}(hn:o.Nodup){c:Nat}(h:c∈o):o[Dw o c]? =some c:=by obtain⟨i,hi⟩:=yE.1 h;rw[Zm hn hi];exact hi
theorem J3{a:Aut}(ha:Dfa a):∀(f n:Nat) (o:List Nat),(∀c∈o,F0 a c)→(∀c∈o,∃w,(∀x∈w,Wv a x)∧Wn a (stF a 0 w)=c)→o.Nodup→∀c∈Yg a f n o,∃w,(∀x∈w,Wv a x)∧Wn a (stF a 0 w)=c
 |0,_,_,_,h,_=>h
 |f+1,n,o,z6,h,hnd=>by
  unfold Yg;cases hon:o[n]? with
  |none=>exact h
  |some c=>
   simp only;obtain⟨⟨r,h1,h2⟩,h3,h4⟩:=Yi (Tv a c) o hnd;have z7:=zH hon;have z8:=z6 c z7;have z1:∀d∈Wf o (Tv a c),d∈o∨∃x,Wv a x∧d=Wn a (toL a (R7 a c) x)∧F0 a d:=fun d hd=>by
    rw[h1]at hd;rcases zU.1 hd with hd|hd
    ·exact .inl hd
    ·obtain⟨m,hm,e⟩:=h2 d hd;obtain⟨x,hx,e2,_,e4,_⟩:=Yq ha z8 hm;rw[e2]at e;simp only[vA]at e;exact .inr ⟨x,hx,e,e▸e4⟩
   refine J3 ha f (n+1) _ (fun d hd=> ?_) (fun d hd=> ?_) h3
   ·rcases z1 d hd with k|⟨_,_,_,k⟩
    ·exact z6 d k
    ·exact k
   ·rcases z1 d hd with k|⟨x,hx,e,_⟩
    ·exact h d k
    ·obtain⟨w,hw,ew⟩:=h c z7;have za:=(ha.run w 0 ha.zero hw).1;refine⟨w++[x],fun y hy=> ?_,?_⟩
     ·rcases zU.1 hy with hy|hy
      ·exact hw y hy
      ·rw[zP.1 hy];exact hx
     ·have e5:stF a 0 (w++[x])=toL a (stF a 0 w) x:=by simp[stF,wp]
      rw[e5,e];rw[S0 ha (ha.next za hx).1 (ha.next (R5 ha z8) hx).1];have:=(Jx ha za).symm;rw[ew]at this;exact this.step hx
theorem u02{a:Aut}(ha:Dfa a):∀c∈Yn a,∃w,(∀x∈w,Wv a x)∧Wn a (stF a 0 w)=c:=
 J3 ha _ 0 _ (fun c hc=>by rw[zP.1 hc];exact Pb ha ha.zero) (fun c hc=>⟨[],by simp,by rw[zP.1 hc];rfl⟩) (by simp)
theorem Ii{a:Aut}{o:List Nat}{m:Mv}:m∈(O5 a o).mv↔∃(n c:Nat),o[n]? =some c∧∃k∈Tv a c,m=⟨n,(Dw o k.dst.toNat:Int),k.on⟩:=by
 unfold O5 mvN;simp only[List.mem_flatMap,yV,zT];constructor
 ·rintro⟨n,hn,k,hk,rfl⟩;have e:o.getD n 0=o[n]:=by simp[yS,hn]
  rw[e]at hk;exact⟨n,_,zJ hn,k,hk,rfl⟩
 ·rintro⟨n,c,hn,k,hk,rfl⟩;have e:o.getD n 0=c:=by simp[yS,hn]
  exact⟨n,Wz hn,k,by rw[e];exact hk,rfl⟩
theorem I9{a:Aut}(o:List Nat):(O5 a o).fin.length=o.length:=by simp[O5]
theorem Bz(a:Aut):(Q5 a).types=a.types:=rfl
theorem Lo{a:Aut}(ha:Dfa a):WfA (Q5 a):=by
 have ho:=E5 ha;have z1:(Q5 a).fin.length=(Yn a).length:=I9 _;have z6:=Wz ho.first;refine⟨ha.ok.types,by omega,fun m hm=> ?_,fun m hm=> ?_,fun m hm=> ?_⟩
 ·obtain⟨n,c,hn,k,hk,rfl⟩:=Ii.1 hm;have:=Wz hn;rw[z1];exact⟨by simp,by simpa using this⟩
 ·obtain⟨n,c,hn,k,hk,rfl⟩:=Ii.1 hm;have:=Wz (Zl ho.nd (ho.closed c (zH hn) k hk));rw[z1];exact⟨by simp,by simpa using this⟩
 ·obtain⟨n,c,hn,k,hk,rfl⟩:=Ii.1 hm;exact(Tk ha (clA a) (R5 ha (ho.cl c (zH hn)))).1.wf k hk
theorem y03{a:Aut}(ha:Dfa a):Md (Q5 a):=fun s h0 h1 x hx=>by
 have ho:=E5 ha;have z6:(Q5 a).fin.length=(Yn a).length:=I9 _;have z1:Wv a x:=hx;have hn:s.toNat<(Yn a).length:=by omega
 have hc:=ho.cl _ (zL hn);have hs:=R5 ha hc;have h:=(Tk ha (clA a) hs).1;have hd:Dy a (clA a) (R7 a (Yn a)[s.toNat]) (Wn a (toL a (R7 a (Yn a)[s.toNat]) x)) x.ty.toNat x.num:=(U8 ha hs).2 ⟨x,z1,rfl,rfl,rfl⟩;obtain⟨k,hk,e⟩:=h.all _ _ _ hd;have hm:=Ii.2 ⟨s.toNat,_,zJ hn,k,hk,rfl⟩;refine⟨_,hm,by simp;omega,?_⟩;exact(Ri (Lo ha) hm hx).2 ((h.mem k hk _ e _ _).2 hd)
theorem u0l{a:Aut}(ha:Dfa a):Pl (Q5 a):=by
 have ho:=E5 ha;unfold Pl Q5 O5;simp only;rw[List.pairwise_flatMap];have hg:∀n,n<(Yn a).length→(Yn a).getD n 0=(Yn a)[n]?.getD 0:=fun n hn=>by simp[yS]
 constructor
 ·intro n hn;have z1:=yV.1 hn;have hc:=ho.cl _ (zL z1);have hs:=R5 ha hc;have h:=(Tk ha (clA a) hs).1;have e:(Yn a).getD n 0=(Yn a)[n]:=by simp[yS,z1]
  unfold mvN;rw[e];refine xZ.2 (h.nd.imp_of_mem fun {m k} hm hk hne _ x hx=> ?_);rintro⟨h1,h2⟩;have z6:Wv a x:=hx;have p1:=(E9 (h.wf m hm).1 x z6.1.1).1 h1;have p2:=(E9 (h.wf k hk).1 x z6.1.1).1 h2;obtain⟨u,hu⟩:=h.dst m hm;obtain⟨v,hv⟩:=h.dst k hk;have:=Zz ha hs ((h.mem m hm u hu _ _).1 p1) ((h.mem k hk v hv _ _).1 p2);exact hne (by rw[hu,hv,this])
 ·refine yQ.2 fun i j hi hj z7 m hm k hk e=> ?_;simp only[List.getElem_range]at hm hk;unfold mvN at hm hk;obtain⟨m',_,rfl⟩:=zT.1 hm;obtain⟨k',_,rfl⟩:=zT.1 hk;simp at e;omega
theorem A8{α β:Type}(rs:List β)(hn:rs.Nodup)(p:β→α→Bool)(hp:∀s t x,p s x=true→p t x=true→s=t):∀l:List α,(rs.map fun s=>(l.filter (p s)).length).sum≤l.length
 |[]=>by have:(rs.map fun s=>(([]:List α).filter (p s)).length)=rs.map fun _=>0:=xL fun s _=>rfl;rw[this,List.map_const'];simp
 |x::l=>by
  have ih:=A8 rs hn p hp l;have key:∀(rs:List β),rs.Nodup→(rs.map fun s=>((x::l).filter (p s)).length).sum≤(rs.map fun s=>(l.filter (p s)).length).sum+(bif rs.any (fun s=>p s x)then 1 else 0):=by
   intro rs;induction rs with
   |nil=>intro _;simp
   |cons s rs ih2=>
    intro z1;obtain⟨z6,z7⟩:=ut.1 z1;have:=ih2 z7;simp only[xE,tS,List.any_cons];by_cases hps:p s x=true
    ·have z8:rs.any (fun s=>p s x)=false:=by rw[vw];intro t ht za;exact z6 (hp s t x hps za▸ht)
     rw[z8]at this;rw[List.filter_cons_of_pos hps,hps];simp only[Bool.true_or,cond_true,cond_false,yW]at this ⊢;omega
    ·rw[List.filter_cons_of_neg hps,show p s x=false by simpa using hps];simp only[Bool.false_or];omega
  have:=key rs hn;rw[yW];cases hc:rs.any (fun s=>p s x)<;>rw[hc]at this<;>simp only[cond_true,cond_false]at this<;>omega
theorem q1r(a:Aut)(cl:List Nat)(s:Int):(j13 a cl s).length≤(Qw a s).length:=by
 have h1:∀(n:Nat) (g:List Mv) (to:Nat) (c:Prd),(Ts n g to c).length≤g.length+1:=fun n g to c=>by
  unfold Ts;split
  ·simp
  ·split<;>simp
 have h2:∀(r g:List Mv),(r.foldl (fun g m=>Ts 0 g (clD cl m) m.on) g).length≤g.length+r.length:=by
  intro r;induction r with
  |nil=>intro g;simp
  |cons m r ih=>intro g;have e:=ih (Ts 0 g (clD cl m) m.on);have e2:=h1 0 g (clD cl m) m.on;rw[xV,yW];omega
 have:=h2 (Qw a s) [];simpa[j13]using this
theorem Xc{a:Aut}(ha:Dfa a){t:Nat}(ht:F0 a t):(Tv a t).length≤(Qw a (R7 a t)).length:=by have h:=C7 ha (clA a) (R7 a t);have hp:=(Kl kyM (j13 a (clA a) (R7 a t)) (h.apart fun t' t'' ty y=>Zz ha (R5 ha ht))).1.length_eq;have:=q1r a (clA a) (R7 a t);unfold Tv y16;omega
theorem Cp{a:Aut}(ha:Dfa a):(Q5 a).mv.length≤a.mv.length:=by
 have ho:=E5 ha;have z1:∀c∈Yn a,∀d∈Yn a,R7 a c=R7 a d→c=d:=fun c hc d hd e=>by have e1:=(Rg ha (ho.cl c hc)).2;have e2:=(Rg ha (ho.cl d hd)).2;rw[←e1,←e2,e]
 have hlen:(Q5 a).mv.length=((Yn a).map fun c=>(Tv a c).length).sum:=by
  unfold Q5 O5;simp only[List.length_flatMap]
  congr 1
  refine wD (by simp) fun i h1 h2=> ?_;have hi:i<(Yn a).length:=by simpa using h1
  simp[mvN,yS,hi]
 have hle:((Yn a).map fun c=>(Tv a c).length).sum≤(((Yn a).map fun c=>((R7 a c:Nat):Int)).map fun s=>(Qw a s).length).sum:=by
  rw[List.map_map];have key:∀l:List Nat,(∀c∈l,F0 a c)→(l.map fun c=>(Tv a c).length).sum≤(l.map ((fun s=>(Qw a s).length)∘fun c=>((R7 a c:Nat):Int))).sum:=by
   intro l;induction l with
   |nil=>intro _;simp
   |cons c l ih=>intro hc;have h1:=ih fun d hd=>hc d (by simp[hd]);have h2:=Xc ha (hc c (by simp));simp only[xE,tS,Function.comp_apply];omega
  exact key _ ho.cl
 have z6:((Yn a).map fun c=>((R7 a c:Nat):Int)).Nodup:=by refine xZ.2 ?_;refine List.Pairwise.imp_of_mem ?_ ho.nd;intro c d hc hd z7 e;exact z7 (z1 c hc d hd (by omega))
 have:=A8 _ z6 (fun s (m:Mv)=>decide (m.src=s) && !Wp m.on) (fun s t x h1 h2=>by
  simp only[Bool.and_eq_true,decide_eq_true_eq]at h1 h2;rw[←h1.1,←h2.1]) a.mv
 rw[hlen];unfold Qw at hle;omega
theorem y0e{a:Aut}(ha:Dfa a):(Q5 a).fin.length≤a.fin.length:=by have ho:=E5 ha;rw[Q5,I9];exact Zo ha ho.nd ho.cl
def Hn(m:Aut):Bool:=m.mv.any fun k=>k.on.any fun s=>decide (256<s.length)
theorem y04{a:Aut}(ha:Dfa a):Vw (Q5 a)=Hn (Q5 a):=by have h1:=y0e ha;have h2:=Cp ha;have h3:=ha.ok.fin;have h4:=ha.ok.mvs;unfold Vw Hn;rw[decide_eq_false (by omega),decide_eq_false (by omega)];simp
theorem Ah{a:Aut}(ha:Dfa a)(hb:Hn (Q5 a)=false):Dfa (Q5 a):=
 ⟨(U4 _).1 ((x17 (Lo ha)).2 (by rw[y04 ha];exact hb)),u0l ha,y03 ha⟩
section
variable {a:Aut} (ha:Dfa a) (hb:Hn (Q5 a)=false)
include ha hb
theorem w0b{n c:Nat}(hn:(Yn a)[n]? =some c){x:Sy}(hx:Wv a x):toL (Q5 a) n x=(Dw (Yn a) (Wn a (toL a (R7 a c) x)):Nat)∧Wn a (toL a (R7 a c) x)∈Yn a:=by have ho:=E5 ha;have hd:=Ah ha hb;have hc:=ho.cl _ (zH hn);have hs:=R5 ha hc;have h:=(Tk ha (clA a) hs).1;have z6:Dy a (clA a) (R7 a c) (Wn a (toL a (R7 a c) x)) x.ty.toNat x.num:=(U8 ha hs).2 ⟨x,hx,rfl,rfl,rfl⟩;obtain⟨k,hk,e⟩:=h.all _ _ _ z6;have hm:=Ii.2 ⟨n,c,hn,k,hk,rfl⟩;have z1:=ho.closed c (zH hn) k hk;rw[e]at z1;simp only[vA]at z1;refine⟨?_,z1⟩;have:=hd.to_of hm (x:=x) hx ((Ri hd.ok.wfA hm hx).2 ((h.mem k hk _ e _ _).2 z6));simp only[e,vA]at this;exact this
theorem Oo:∀(w:List Sy) {n c:Nat},(Yn a)[n]? =some c→(∀x∈w,Wv a x)→Jd (Q5 a) n w=Jd a (R7 a c) w
 |[],n,c,hn,_=>by simp only[Jd,stF,uo,vA];simp[Q5,O5,yS,hn]
 |x::w,n,c,hn,hw=>by have hx:=hw x (by simp);have ho:=E5 ha;obtain⟨h1,h2⟩:=w0b ha hb hn hx;have ih:=Oo w (Zl ho.nd h2) (fun y hy=>hw y (by simp[hy]));have hc:=ho.cl _ (zH hn);have z1:=(ha.next (R5 ha hc) hx).1;have e:=Jx ha z1 w (fun y hy=>hw y (by simp[hy]));have e1:Jd (Q5 a) n (x::w)=Jd (Q5 a) (toL (Q5 a) n x) w:=rfl;have e2:Jd a (R7 a c) (x::w)=Jd a (toL a (R7 a c) x) w:=rfl;rw[e1,e2,h1,ih,e]
theorem x0t:eqW (Q5 a) a 0 0:=fun w hw=>by have ho:=E5 ha;have h1:=Oo ha hb w ho.first hw;have h2:=Jx ha ha.zero w hw;simp only[Int.cast_ofNat_Int]at h1;exact h1.trans h2
theorem v0r{w:List Sy}(hw:∀x∈w,Wv a x):Uk (Q5 a) w=Uk a w:=by rw[(Ah ha hb).acc (w:=w) hw,ha.acc hw];exact x0t ha hb w hw
theorem Nk{i j:Nat}(hi:i<(Q5 a).fin.length)(hj:j<(Q5 a).fin.length)(h:eqW (Q5 a) (Q5 a) i j):i=j:=by
 have ho:=E5 ha;rw[Q5,I9]at hi hj;have z1:=ho.cl _ (zL hi);have z6:=ho.cl _ (zL hj);have:eqW a a (R7 a (Yn a)[i]) (R7 a (Yn a)[j]):=fun w hw=>by rw[←Oo ha hb w (zJ hi) hw,←Oo ha hb w (zJ hj) hw];exact h w hw
 have e:=(S0 ha (R5 ha z1) (R5 ha z6)).2 this;rw[(Rg ha z1).2,(Rg ha z6).2]at e;exact x1o ho.nd hi hj e
theorem q1i:∀(w:List Sy),(∀x∈w,Wv a x)→Wn a (stF a 0 w)∈Yn a∧stF (Q5 a) 0 w=(Dw (Yn a) (Wn a (stF a 0 w)):Nat):=by
 have ho:=E5 ha;have key:∀(w:List Sy) (n c:Nat) (s:Int),(Yn a)[n]? =some c→inS a s→Wn a s=c→(∀x∈w,Wv a x)→Wn a (stF a s w)∈Yn a∧stF (Q5 a) n w=(Dw (Yn a) (Wn a (stF a s w)):Nat):=by
  intro w;induction w with
  |nil=>intro n c s hn hs hc _;simp only[stF,uo];rw[hc];exact⟨zH hn,by rw[Zm ho.nd hn]⟩
  |cons x w ih=>
   intro n c s hn hs hc hw;have hx:=hw x (by simp);obtain⟨h1,h2⟩:=w0b ha hb hn hx;have z1:=ho.cl _ (zH hn);have e:Wn a (toL a (R7 a c) x)=Wn a (toL a s x):=by rw[S0 ha (ha.next (R5 ha z1) hx).1 (ha.next hs hx).1];have:=Jx ha hs;rw[hc]at this;exact this.step hx
   rw[e]at h1 h2;have:=ih _ _ (toL a s x) (Zl ho.nd h2) (ha.next hs hx).1 rfl (fun y hy=>hw y (by simp[hy]));have e1:stF a s (x::w)=stF a (toL a s x) w:=rfl;have e2:stF (Q5 a) n (x::w)=stF (Q5 a) (toL (Q5 a) n x) w:=rfl;rw[e1,e2,h1];exact this
 intro w hw;have:=key w 0 _ 0 ho.first ha.zero rfl hw;simpa using this
theorem y0s{n:Nat}(hn:n<(Q5 a).fin.length):∃w,(∀x∈w,Wv a x)∧stF (Q5 a) 0 w=n:=by have ho:=E5 ha;rw[Q5,I9]at hn;obtain⟨w,hw,e⟩:=u02 ha _ (zL hn);have:=(q1i ha hb w hw).2;rw[e,Zm ho.nd (zJ hn)]at this;exact⟨w,hw,this⟩
end
def P0(a:Aut):Int×Aut:=if(Ru a).1≠0 then((Ru a).1,Uo)else if(O3 (Ru a).2).1≠0 then((O3 (Ru a).2).1,Uo)else
 if Hn (Q5 (O3 (Ru a).2).2)then(5,Uo)else(0,Q5 (O3 (Ru a).2).2)
theorem u0g{a d c:Aut}(h:OkA a)(hd:Ru a=(0,d))(hc:O3 d=(0,c)):Dfa c∧c.types=a.types∧∀w,(∀x∈w,Wv a x)→Uk c w=Uk a w:=by obtain⟨Q,_,_,_,_,_,z1,ddet,z6,dacc⟩:=w1h h hd;obtain⟨z7,z8,cfull,cdet,cacc⟩:=y1y z1 hc;exact⟨⟨z7,cdet ddet,cfull⟩,z8.trans z6,fun w hw=>(cacc w).trans (dacc w hw)⟩
theorem Ft{a m:Aut}(h:OkA a)(hm:P0 a=(0,m)):∃c,Dfa c∧c.types=a.types∧m=Q5 c∧Hn (Q5 c)=false∧∀w,(∀x∈w,Wv a x)→Uk c w=Uk a w:=by
 unfold P0 at hm;split at hm
 ·rename_i hd;exact absurd (uV.1 hm).1 hd
 ·rename_i hd;split at hm
  ·rename_i hc;exact absurd (uV.1 hm).1 hc
  ·rename_i hc;split at hm
   ·simp at hm
   ·rename_i hb;obtain⟨h1,h2,h3⟩:=u0g h (d:=(Ru a).2) (c:=(O3 (Ru a).2).2) (ua (by simpa using hd) rfl) (ua (by simpa using hc) rfl);exact⟨_,h1,h2,(uV.1 hm).2.symm,by simpa using hb,h3⟩
theorem f0q{a:Aut}(h:OkA a):(P0 a).1=0∨(P0 a).1=5:=by
 unfold P0;split
 ·rename_i hd;rcases u1s h with k|k
  ·exact absurd k hd
  ·exact .inr k
 ·split
  ·rename_i hc;rcases v1y (Ru a).2 with k|k
   ·exact absurd k hc
   ·exact .inr k
  ·split
   ·exact .inr rfl
   ·exact .inl rfl
theorem q1f{a b m:Aut}(ha:OkA a)(hb:OkA b)(ht:b.types=a.types)(hw:∀w,(∀x∈w,Wv a x)→Uk a w=Uk b w){n:Aut}(hm:P0 a=(0,m))(hn:P0 b=(0,n)):m=n:=by
 obtain⟨c,c1,c2,rfl,c4,c5⟩:=Ft ha hm;obtain⟨d,d1,d2,rfl,d4,d5⟩:=Ft hb hn;have z6:d.types=c.types:=by rw[d2,ht,c2]
 refine x0y c1 d1 z6 fun w z1=> ?_;have h1:∀x∈w,Wv a x:=fun x hx=>(Tt c2).1 (z1 x hx);have h2:∀x∈w,Wv b x:=fun x hx=>(Tt ht).2 (h1 x hx);have h3:∀x∈w,Wv d x:=fun x hx=>(Tt z6).2 (z1 x hx);rw[←c1.acc z1,←d1.acc h3,c5 w h1,d5 w h2];exact hw w h1
theorem j01{a m:Aut}(ha:OkA a)(hm:P0 a=(0,m)):OkA m∧Dfa m∧m.types=a.types∧(∀w,(∀x∈w,Wv a x)→Uk m w=Uk a w)∧((P0 m).1=5∨P0 m=(0,m)):=by
 obtain⟨c,c1,c2,rfl,c4,c5⟩:=Ft ha hm;have hd:=Ah c1 c4;have z1:∀w,(∀x∈w,Wv a x)→Uk (Q5 c) w=Uk a w:=fun w hw=>by rw[v0r c1 c4 (fun x hx=>(Tt c2).2 (hw x hx))];exact c5 w hw
 refine⟨hd.ok,hd,c2,z1,?_⟩;rcases f0q hd.ok with h0|h5
 ·obtain⟨n,hn⟩:∃n,P0 (Q5 c)=(0,n):=⟨_,ua h0 rfl⟩
  have:=q1f ha hd.ok c2 (fun w hw=>(z1 w hw).symm) hm hn;exact .inr (by rw[hn,←this])
 ·exact .inl h5
end Go.Abs
namespace Go.Abs
def addI(o:List Int)(c:Int):List Int:=if c∈o then o else o++[c]
def El(o:List Int)(l:List Int):List Int:=l.foldl addI o
def Yz(sc:Int→List Int):Nat→Nat→List Int→List Int
 |0,_,o=>o
 |f+1,n,o=>match o[n]? with
  |none=>o
  |some c=>Yz sc f (n+1) (El o (sc c))
theorem q12(o:List Int)(c:Int):∃r,addI o c=o++r∧∀x∈r,x=c:=by
 unfold addI;split
 ·exact⟨[],by simp,by simp⟩
 ·exact⟨[c],rfl,fun x hx=>zP.1 hx⟩
theorem c0u(o:List Int)(c:Int):c∈addI o c:=by
 unfold addI;split
 ·assumption
 ·simp
theorem v0h{o:List Int}(h:o.Nodup)(c:Int):(addI o c).Nodup:=by
 unfold addI;split
 ·exact h
 ·rename_i hc;exact vG.2 ⟨h,by simp,fun x hx y hy e=>by rw[zP.1 hy]at e;exact hc (e▸hx)⟩
theorem Uw:∀(l:List Int) (o:List Int),o.Nodup→(∃r,El o l=o++r∧∀x∈r,x∈l)∧(El o l).Nodup∧∀m∈l,m∈El o l
 |[],o,h=>⟨⟨[],by simp[El],by simp⟩,h,by simp⟩
 |m::l,o,h=>by
  obtain⟨⟨r,h1,h2⟩,h3,h4⟩:=Uw l (addI o m) (v0h h _);obtain⟨r',h5,h6⟩:=q12 o m;have he:El o (m::l)=El (addI o m) l:=rfl;rw[he];refine⟨⟨r'++r,by rw[h1,h5,xP],fun x hx=> ?_⟩,h3,fun k hk=> ?_⟩
  ·rcases zU.1 hx with hx|hx
   ·rw[h6 x hx];simp
   ·simp[h2 x hx]
  ·rcases yB.1 hk with rfl|hk
   ·rw[h1];exact yY _ (c0u _ _)
   ·exact h4 k hk
structure SrchS (sc:Int→List Int) (o:List Int):Prop where
 nd:o.Nodup
 zero:(0:Int)∈o
 closed:∀c∈o,∀d∈sc c,d∈o
 least:∀S:Int→Prop,S 0→(∀c d,S c→d∈sc c→S d)→∀c∈o,S c
theorem X6{sc:Int→List Int}{N:Nat}(z7:∀c:Int,0≤c∧c<N→∀d∈sc c,0≤d∧d<N):∀(f n:Nat) (o:List Int),N+1≤n+f→n≤o.length→(0:Int)∈o→o.Nodup→(∀c∈o,0≤c∧c<N)→
  (∀(i:Nat) (c:Int),i<n→o[i]? =some c→∀d∈sc c,d∈o)→(∀S:Int→Prop,S 0→(∀c d,S c→d∈sc c→S d)→∀c∈o,S c)→SrchS sc (Yz sc f n o)
 |0,n,o,hf,hn,h0,z1,z6,hc,hl=>by
  have:o.length≤N:=by have:=z1.length_le_of_subset (l₂:=W6 N) fun c hx=>W1.2 (z6 c hx);simpa[W6]using this
  omega
 |f+1,n,o,hf,hn,h0,z1,z6,hc,hl=>by
  unfold Yz;cases hon:o[n]? with
  |none=>
   have hlen:o.length≤n:=by simpa using hon
   refine⟨z1,h0,fun c hx d hd=> ?_,hl⟩;obtain⟨i,hi⟩:=yE.1 hx;have za:i<o.length:=Wz hi;exact hc i c (by omega) hi d hd
  |some c=>
   simp only;have zb:=Wz hon;have z8:=zH hon;obtain⟨⟨r,h1,h2⟩,h3,h4⟩:=Uw (sc c) o z1;refine X6 z7 f (n+1) _ (by omega) (by rw[h1,z_];omega) (by rw[h1];exact yY _ h0) h3 (fun d hd=> ?_) (fun i d hi hd m hm=> ?_) (fun S s0 s1 d hd=> ?_)
   ·rw[h1]at hd;rcases zU.1 hd with hd|hd
    ·exact z6 d hd
    ·exact z7 c (z6 c z8) d (h2 d hd)
   ·rw[h1,zF (by omega)]at hd;by_cases e:i=n
    ·subst e;rw[hon]at hd;cases hd;exact h4 m hm
    ·rw[h1];exact yY _ (hc i d (by omega) hd m hm)
   ·rw[h1]at hd;rcases zU.1 hd with hd|hd
    ·exact hl S s0 s1 d hd
    ·exact s1 c d (hl S s0 s1 c z8) (h2 d hd)
theorem y0c{sc:Int→List Int}{N:Nat}(hN:0<N)(z1:∀c:Int,0≤c∧c<N→∀d∈sc c,0≤d∧d<N):SrchS sc (Yz sc (N+1) 0 [0]):=
 X6 z1 (N+1) 0 [0] (by omega) (by simp) (by simp) (by simp) (fun c hc=>by rw[zP.1 hc];omega) (fun i c hi=>by omega) (fun S s0 _ c hc=>by rw[zP.1 hc];exact s0)
def P1(a:Aut)(c:Int):List Int:=(Qw a c).map (·.dst)
def y2m(a:Aut)(c:Int):List Int:=(Xa a a).map (toL a c)
def S5(a:Aut):Bool:=(Yz (P1 a) (a.fin.length+1) 0 [0]).length==a.fin.length
def y2t(a:Aut):Bool:=(Yz (y2m a) (a.fin.length+1) 0 [0]).length==a.fin.length
theorem Lk{a:Aut}(ha:Dfa a){c:Int}(hc:inS a c){d:Int}:d∈P1 a c↔∃x,Wv a x∧toL a c x=d:=by
 unfold P1;rw[zT];constructor
 ·rintro⟨m,hm,rfl⟩;obtain⟨h1,rfl,h3⟩:=Eo.1 hm;obtain⟨t,n,hp⟩:=(Yh (ha.ok.wfA.on m h1)).1 h3;obtain⟨z6,z1⟩:=(ha.ok.wfA.on m h1).lt hp;have hx:Wv a ⟨t,n⟩:=⟨⟨by simp,by have:=ha.ok.types;simp;omega⟩,z1⟩
  exact⟨⟨t,n⟩,hx,ha.to_of h1 hx ((Ri ha.ok.wfA h1 hx).2 (by simpa using hp))⟩
 ·rintro⟨x,hx,rfl⟩;obtain⟨m,hm,h1,h2,h3⟩:=ha.move hc hx;exact⟨m,Eo.2 ⟨hm,h1,(Yh (ha.ok.wfA.on m hm)).2 ⟨_,_,(Ri ha.ok.wfA hm hx).1 h2⟩⟩,h3⟩
theorem G6{a:Aut}(ha:Dfa a):∀c,0≤c∧c<(a.fin.length:Int)→∀d∈P1 a c,0≤d∧d<(a.fin.length:Int):=fun c hc d hd=>by obtain⟨x,hx,rfl⟩:=(Lk ha hc).1 hd;exact(ha.next hc hx).1
theorem q1s{a:Aut}(ha:Dfa a):S5 a=true↔∀n:Nat,n<a.fin.length→∃w,(∀x∈w,Wv a x)∧stF a 0 w=n:=by
 have h1:=y0c (sc:=P1 a) ha.ok.fin.1 (G6 ha);have z6:∀c∈Yz (P1 a) (a.fin.length+1) 0 [0],inS a c:=fun c hc=>h1.least (inS a) ha.zero (fun c d hs hd=>G6 ha c hs d hd) c hc;have z1:∀c∈Yz (P1 a) (a.fin.length+1) 0 [0],c∈W6 a.fin.length:=fun c hc=>W1.2 (z6 c hc);have hle:=h1.nd.length_le_of_subset z1;have z8:(W6 a.fin.length).length=a.fin.length:=by simp[W6]
 unfold S5;rw[beq_iff_eq];constructor
 ·intro e n hn;have hp:∀c∈W6 a.fin.length,c∈Yz (P1 a) (a.fin.length+1) 0 [0]:=by
   intro c hc;by_cases hm:c∈Yz (P1 a) (a.fin.length+1) 0 [0]
   ·exact hm
   ·exfalso;have za:(c::Yz (P1 a) (a.fin.length+1) 0 [0]).Nodup:=ut.2 ⟨hm,h1.nd⟩;have:=za.length_le_of_subset (l₂:=W6 a.fin.length) fun d hd=>by
     rcases yB.1 hd with rfl|hd
     ·exact hc
     ·exact z1 d hd
    rw[yW,z8]at this;omega
  have hm:=hp (n:Int) (W1.2 ⟨by omega,by omega⟩);refine(h1.least (fun c=>inS a c∧∃w,(∀x∈w,Wv a x)∧stF a 0 w=c) ⟨ha.zero,[],by simp,rfl⟩ (fun c d hs hd=> ?_) _ hm).2;obtain⟨z7,w,hw,e1⟩:=hs;obtain⟨x,hx,rfl⟩:=(Lk ha z7).1 hd;refine⟨(ha.next z7 hx).1,w++[x],fun y hy=> ?_,?_⟩
  ·rcases zU.1 hy with hy|hy
   ·exact hw y hy
   ·rw[zP.1 hy];exact hx
  ·rw[←e1];simp[stF,wp]
 ·intro h;have hp:∀c∈W6 a.fin.length,c∈Yz (P1 a) (a.fin.length+1) 0 [0]:=fun c hc=>by
   have zc:=W1.1 hc;obtain⟨w,hw,e⟩:=h c.toNat (by omega);have key:∀(w:List Sy) (s:Int),s∈Yz (P1 a) (a.fin.length+1) 0 [0]→(∀x∈w,Wv a x)→stF a s w∈Yz (P1 a) (a.fin.length+1) 0 [0]:=by
    intro w;induction w with
    |nil=>intro s hs _;exact hs
    |cons x w ih=>intro s hs hw;exact ih (toL a s x) (h1.closed s hs _ ((Lk ha (z6 s hs)).2 ⟨x,hw x (by simp),rfl⟩)) (fun y hy=>hw y (by simp[hy]))
   have:=key w 0 h1.zero hw;rw[e]at this;rw[show(c.toNat:Int)=c by omega]at this;exact this
  have zb:(W6 a.fin.length).Nodup:=(Am _).imp fun h e=>by omega
  have:=zb.length_le_of_subset hp;omega
end Go.Abs
namespace Go.Abs
structure Dta (a:Aut):Prop where
 ok:OkA a
 det:Pl a
def wkS(a:Aut)(s:Int):List Sy→Option Int
 |[]=>some s
 |x::w=>if toL a s x<0 then none else wkS a (toL a s x) w
def fAt(f:List Int)(s:Int):Int:=f.getD s.toNat (-1)
structure IsoT (a b:Aut) (f:List Int):Prop where
 len:f.length=a.fin.length
 zero:fAt f 0=0
 low:∀q∈f,-1≤q
 fin:∀s,inS a s→0≤fAt f s→a.fin.getD s.toNat false=b.fin.getD (fAt f s).toNat false
 step:∀s,inS a s→0≤fAt f s→∀x,Wv a x→(toL a s x<0↔toL b (fAt f s) x<0)∧(0≤toL a s x→fAt f (toL a s x)=toL b (fAt f s) x)
 inj:∀s t,inS a s→inS a t→0≤fAt f s→fAt f s=fAt f t→s=t
 reach:∀s,inS a s→0≤fAt f s→∃w,(∀x∈w,Wv a x)∧wkS a 0 w=some s∧wkS b 0 w=some (fAt f s)
def u1a(st:List Int×List Int)(e:Int×Int):Option (List Int×List Int):=
 if fAt st.1 e.1=e.2 then some st else if 0≤fAt st.1 e.1∨e.2∈st.1 then none else some (st.1.set e.1.toNat e.2,st.2++[e.1])
def u0r:List (Int×Int)→List Int×List Int→Option (List Int×List Int)
 |[],st=>some st
 |e::es,st=>(u1a st e).bind (u0r es)
def y2o(chk:Int→Int→Bool)(ps:Int→Int→List (Int×Int)):Nat→Nat→List Int×List Int→Option (List Int)
 |0,_,st=>some st.1
 |f+1,n,st=>match st.2[n]? with
  |none=>some st.1
  |some p=>if chk p (fAt st.1 p)then(u0r (ps p (fAt st.1 p)) st).bind (y2o chk ps f (n+1))else none
def y24(a:Aut):List Int×List Int:=((List.replicate a.fin.length (-1)).set 0 0,[0])
structure IsoI (a b:Aut) (st:List Int×List Int):Prop where
 len:st.1.length=a.fin.length
 zero:fAt st.1 0=0
 low:∀q∈st.1,-1≤q
 mem:∀s,s∈st.2↔inS a s∧0≤fAt st.1 s
 nd:st.2.Nodup
 inj:∀s t,inS a s→inS a t→0≤fAt st.1 s→fAt st.1 s=fAt st.1 t→s=t
 reach:∀s,inS a s→0≤fAt st.1 s→∃w,(∀x∈w,Wv a x)∧wkS a 0 w=some s∧wkS b 0 w=some (fAt st.1 s)
 rng:∀s,inS a s→0≤fAt st.1 s→inS b (fAt st.1 s)
structure PsOk (a b:Aut) (chk:Int→Int→Bool) (ps:Int→Int→List (Int×Int)):Prop where
 chk:∀p q,inS a p→inS b q→(chk p q=true↔a.fin.getD p.toNat false=b.fin.getD q.toNat false∧∀x,Wv a x→(toL a p x<0↔toL b q x<0))
 from_:∀p q,inS a p→inS b q→∀e∈ps p q,∃x,Wv a x∧toL a p x=e.1∧toL b q x=e.2∧0≤e.1∧0≤e.2
 all:∀p q,inS a p→inS b q→∀x,Wv a x→0≤toL a p x→0≤toL b q x→(toL a p x,toL b q x)∈ps p q
end Go.Abs
namespace Go.Abs
def Jk:List Iv→List Iv→Option Int
 |x::l,y::m=>if max x.lo y.lo≤min x.hi y.hi then some (max x.lo y.lo)else if x.hi<y.hi then Jk l (y::m)else Jk (x::l) m
 |_,_=>none
termination_by l m=>l.length+m.length
theorem q05(m:List Iv):Jk [] m=none:=by simp[Jk]
theorem Cq(x:Iv)(l:List Iv):Jk (x::l) []=none:=by simp[Jk]
theorem v0w(x y:Iv)(l m:List Iv):Jk (x::l) (y::m)=if max x.lo y.lo≤min x.hi y.hi then some (max x.lo y.lo)else if x.hi<y.hi then Jk l (y::m)else Jk (x::l) m:=by rw[Jk]
theorem x12{x:Iv}{l:List Iv}(h:Sep (x::l)):∀n,M l n→x.hi<n:=by rintro n ⟨y,hy,h1,h2⟩;have:=(yU.1 h.2).1 y hy;omega
theorem Tq{x:Iv}{l:List Iv}{n:Int}:M (x::l) n↔(x.lo≤n∧n≤x.hi)∨M l n:=by
 constructor
 ·rintro⟨y,hy,h⟩;rcases yB.1 hy with rfl|hy
  ·exact .inl h
  ·exact .inr ⟨y,hy,h⟩
 ·rintro(h|⟨y,hy,h⟩)
  ·exact⟨x,by simp,h⟩
  ·exact⟨y,by simp[hy],h⟩
theorem g0b{n:Int}:¬M [] n:=by rintro⟨y,hy,_⟩;cases hy
theorem w0g{x:Iv}{l:List Iv}(h:Sep (x::l)):Sep l:=⟨fun y hy=>h.1 y (by simp[hy]),(yU.1 h.2).2⟩
theorem Hs(l m:List Iv)(hl:Sep l)(hm:Sep m):match Jk l m with|some n=>M l n∧M m n∧∀k,M l k→M m k→n≤k|none=>∀k,M l k→¬M m k:=by
 match l,m with
 |[],m=>rw[q05];exact fun k h=>absurd h g0b
 |x::l,[]=>rw[Cq];exact fun k _ h=>absurd h g0b
 |x::l,y::m=>
  have hx:=hl.1 x (by simp);have hy:=hm.1 y (by simp);have sx:=x12 hl;have sy:=x12 hm;rw[Jk];by_cases h1:max x.lo y.lo≤min x.hi y.hi
  ·rw[if_pos h1];refine⟨Tq.2 (.inl (by omega)),Tq.2 (.inl (by omega)),fun k k1 k2=> ?_⟩;have:x.lo≤k:=by
    rcases Tq.1 k1 with h|h
    ·exact h.1
    ·have:=sx k h;omega
   have:y.lo≤k:=by
    rcases Tq.1 k2 with h|h
    ·exact h.1
    ·have:=sy k h;omega
   omega
  ·rw[if_neg h1];by_cases h2:x.hi<y.hi
   ·rw[if_pos h2];have ih:=Hs l (y::m) (w0g hl) hm;have z1:∀k,(x.lo≤k∧k≤x.hi)→¬M (y::m) k:=fun k h hk=>by
     rcases Tq.1 hk with h'|h'
     ·omega
     ·have:=sy k h';omega
    cases hc:Jk l (y::m)with
    |some n=>
     rw[hc]at ih;obtain⟨i1,i2,i3⟩:=ih;refine⟨Tq.2 (.inr i1),i2,fun k k1 k2=> ?_⟩;rcases Tq.1 k1 with h|h
     ·exact absurd k2 (z1 k h)
     ·exact i3 k h k2
    |none=>
     rw[hc]at ih;intro k k1 k2;rcases Tq.1 k1 with h|h
     ·exact z1 k h k2
     ·exact ih k h k2
   ·rw[if_neg h2];have ih:=Hs (x::l) m hl (w0g hm);have z1:∀k,(y.lo≤k∧k≤y.hi)→¬M (x::l) k:=fun k h hk=>by
     rcases Tq.1 hk with h'|h'
     ·omega
     ·have:=sx k h';omega
    cases hc:Jk (x::l) m with
    |some n=>
     rw[hc]at ih;obtain⟨i1,i2,i3⟩:=ih;refine⟨i1,Tq.2 (.inr i2),fun k k1 k2=> ?_⟩;rcases Tq.1 k2 with h|h
     ·exact absurd k1 (z1 k h)
     ·exact i3 k k1 h
    |none=>
     rw[hc]at ih;intro k k1 k2;rcases Tq.1 k2 with h|h
     ·exact z1 k h k1
     ·exact ih k k1 h
termination_by l.length+m.length
def lqB(p q:Prd):Nat→Nat→Option Sy
 |0,_=>none
 |f+1,t=>match Jk (p.getD t []) (q.getD t [])with
  |some n=>some ⟨t,n⟩
  |none=>lqB p q f (t+1)
def Eh(p q:Prd):Option Sy:=if Wp (Eg p q)then none else some (Qm (Eg p q))
theorem q09{T:Nat}{p:Prd}(h:PWf T p)(t:Nat):Sep (p.getD t []):=by
 by_cases ht:t<p.length
 ·rw[Wx ht];exact(h.2 _ (zL ht)).1
 ·rw[show p.getD t []=[] by simp[yS,xA (by omega:p.length≤t)]];exact⟨by simp,by simp⟩
theorem Sr{p:Prd}{t:Nat}{n:Int}:PM p t n↔M (p.getD t []) n:=by
 constructor
 ·rintro⟨s,hs,h⟩;simpa[yS,hs]using h
 ·intro h;by_cases ht:t<p.length
  ·rw[Wx ht]at h;exact⟨_,zJ ht,h⟩
  ·rw[show p.getD t []=[] by simp[yS,xA (by omega:p.length≤t)]]at h;exact absurd h g0b
theorem w28{T:Nat}{p q:Prd}(hp:PWf T p)(hq:PWf T q):lqB p q T 0=Eh p q:=by
 have hw:=Yc hp hq.1;have key:∀(f t:Nat),t+f=T→(∀t' n,t'<t→¬PM (Eg p q) t' n)→lqB p q f t=Eh p q:=by
  intro f;induction f with
  |zero=>intro t ht z1;have:Wp (Eg p q)=true:=(Tg hw).2 fun t' n hm=>z1 t' n (by have:=(hw.lt hm).1;omega) hm;rw[lqB,Eh,if_pos this]
  |succ f ih=>
   intro t ht z1;have hs:=Hs _ _ (q09 hp t) (q09 hq t);rw[lqB];cases hc:Jk (p.getD t []) (q.getD t [])with
   |some n=>
    rw[hc]at hs;obtain⟨h1,h2,h3⟩:=hs;have hm:PM (Eg p q) t n:=(Ep hp.1 hq.1 t n).2 ⟨Sr.2 h1,Sr.2 h2⟩;have hv:Wp (Eg p q)=false:=(Yh hw).2 ⟨t,n,hm⟩;rw[Eh,if_neg (by rw[hv];simp)];obtain⟨g1,g2,g3⟩:=Pe hw ⟨t,n,hm⟩;have z6:=hw.lt hm;show some (⟨(t:Int),n⟩:Sy)=some (Qm (Eg p q))
    congr 1
    rcases g3 ⟨t,n⟩ ⟨by simp,by simpa using z6.1,z6.2⟩ (by simpa using hm)with e|e
    ·exact e.symm
    ·exfalso;unfold sLt at e;simp only at e;have z8:=g1.1;by_cases hle:(Qm (Eg p q)).ty.toNat<t
     ·exact z1 _ _ hle g2
     ·have z7:(Qm (Eg p q)).ty=t:=by omega
      rw[z7]at g2;have:=(Ep hp.1 hq.1 t (Qm (Eg p q)).num).1 (by simpa using g2);have:=h3 _ (Sr.1 this.1) (Sr.1 this.2);omega
   |none=>
    rw[hc]at hs;refine ih (t+1) (by omega) fun t' n za hm=> ?_;by_cases e:t'=t
    ·subst e;have:=(Ep hp.1 hq.1 t' n).1 hm;exact hs n (Sr.1 this.1) (Sr.1 this.2)
    ·exact z1 t' n (by omega) hm
 exact key T 0 (by omega) (fun t' n h=>by omega)
theorem f00{T:Nat}{p:Prd}(hp:PWf T p):Eg p p=p:=I1 (Yc hp hp.1) hp fun t n=>by rw[Ep hp.1 hp.1];simp
theorem Bv{T:Nat}{p:Prd}(hp:PWf T p):Eh p p=if Wp p then none else some (Qm p):=by rw[Eh,f00 hp]
theorem z1u(a b:Aut)(s:Int×Int):Wi a b s=(Qw a s.1).flatMap fun m=>(Qw b s.2).filterMap fun n=>(Eh m.on n.on).map fun x=>(x,(m.dst,n.dst)):=by
 unfold Wi Eh
 congr 1
 funext m
 congr 1
 funext n;split<;>simp
end Go.Abs
namespace Go.Abs
def Yl(a:Aut):Int:=if Wk a≠0 then Wk a else if z0m a=false∨Pu a=false then 3 else 0
theorem Oy(a:Aut):Yl a=0↔Dfa a:=by
 unfold Yl;by_cases h:Wk a=0
 ·have z1:=(U4 a).1 h;rw[if_neg (fun k=>k h)];have h1:=u1h z1.wfA;have h2:Pu a=true↔Md a:=by rw[←q0p z1.wfA,Gx];unfold Pu;rw[zX];simp only[yV];exact forall_congr' fun s=>forall_congr' fun _=>by rw[c0a z1.wfA]
  constructor
  ·intro k;split at k
   ·cases k
   ·rename_i hn;refine⟨z1,h1.1 ?_,h2.1 ?_⟩
    ·cases hs:z0m a
     ·exact absurd (.inl hs) hn
     ·rfl
    ·cases hs:Pu a
     ·exact absurd (.inr hs) hn
     ·rfl
  ·intro k;rw[if_neg];rintro(hs|hs)
   ·rw[h1.2 k.det]at hs;cases hs
   ·rw[h2.2 k.full]at hs;cases hs
 ·rw[if_pos h];exact⟨fun k=>absurd k h,fun k=>absurd ((U4 a).2 k.ok) h⟩
theorem k1i{a:Aut}(h:OkA a):((Sm a).1=0∧(Sm a).2.fin.length=a.fin.length)↔Pu a=true:=by
 have z1:Wk a=0:=(U4 a).2 h;have hc:Sm a=O3 a:=by unfold Sm;rw[if_neg (fun k=>k z1)]
 have h2:Pu a=true↔Rl a (Wq a)=[]:=by rw[Gx];unfold Pu;rw[zX];simp only[yV];exact forall_congr' fun s=>forall_congr' fun _=>by rw[c0a h.wfA]
 rw[hc,h2,O3];cases hn:Rl a (Wq a)with
 |nil=>simp
 |cons m l=>
  rw[if_neg (by simp)];unfold Ji;split
  ·simp
  ·simp[Ug]
end Go.Abs
namespace Go.Abs
open Go Go.Proofs Go.Maps Go.RowKit
theorem g1w(x y:Int):(if x<y then y else x)=max x y:=by omega
def u1i:Option Int→AV
 |some n=> .tup [.i n,.bool true]
 |none=> .tup [.i 0,.bool false]
theorem w04(l m:List Iv)(hl:l.length≤1000000000)(hm:m.length≤1000000000):PC Tryz.prog 188 [LIv l,LIv m] (fun r=>r=u1i (Jk l m)):=by
 refine Qk tOk Tryz.func188 rfl Tryz.results188 rfl (by simp[Tryz.ntmps188]) ?_;rw[Tryz.ntmps188];simp only[Qg];obtain⟨R,hR⟩:∃R,Jk l m=R:=⟨_,rfl⟩
 rw[hR];repeat first|(refine r_ ?_;simp)|refine q_ ?_
 refine Qo (Qc (sl':=[(0,LIv l),(1,LIv m),(6,.i (0:Nat)),(7,.i (0:Nat))]) ?_ (by simp));refine Qn (F:=fun(u:Nat×Nat)=>⟨[(0,LIv l),(1,LIv m),(6,.i u.1),(7,.i u.2)],[]⟩)
  (fun u=>u.1≤l.length∧u.2≤m.length∧Jk (l.drop u.1) (m.drop u.2)=R) (fun u=>(l.length - u.1)+(m.length - u.2)) ?_ (0,0) ⟨xY _,xY _,by simpa using hR⟩
 rintro⟨i,k⟩ ⟨hi,hk,hI⟩ ih;simp only at hi hk hI ih ⊢;by_cases h1:i<l.length
 ·by_cases h2:k<m.length
  ·have hw:IntKind.i64.wrap ((i:Int)+1)=i+1:=wrap_i64 _ (by omega) (by omega);have z1:IntKind.i64.wrap ((k:Int)+1)=k+1:=wrap_i64 _ (by omega) (by omega);rw[wN h1,wN h2,v0w]at hI;have e1:l[i]? =some l[i]:=zJ h1;have e2:m[k]? =some m[k]:=zJ h2;repeat first|(refine r_ ?_;simp[h1,h2])|refine q_ ?_
   refine Qb rfl (fun _=> ?_) (fun h=>by simp[h1,h2]at h);repeat first|(refine r_ ?_;simp)|refine q_ ?_
   refine Qs tOk mixed [] (.val 0 (.val 1 (.val 2 (.val 3 (.val 4 (.val 5 (.val 6 (.val 7 (.val 8 (.val 9 (.val 10 (.val 11 (.done))))))))))))) rfl (by kernel_rfl) ?_;simp[h1,h2];repeat first|(refine r_ ?_;simp)|refine q_ ?_
   refine Qs tOk mixed [] (.val 0 (.val 1 (.val 2 (.val 3 (.val 4 (.val 5 (.val 6 (.val 7 (.val 8 (.val 9 (.val 10 (.val 11 (.val 12 (.done)))))))))))))) rfl (by kernel_rfl) ?_;simp[h1,h2];refine Qb rfl (fun h=> ?_) (fun h=> ?_)
   ·have hle:max l[i].lo m[k].lo≤min l[i].hi m[k].hi:=by simp at h;omega
    rw[if_pos hle]at hI;rw[←hI];repeat first|(refine r_ ?_;simp)|refine q_ ?_
    rw[g1w];rfl
   ·have hle:¬max l[i].lo m[k].lo≤min l[i].hi m[k].hi:=by simp at h;omega
    rw[if_neg hle]at hI;repeat first|(refine r_ ?_;simp)|refine q_ ?_
    refine Qs tOk mixed [] (.val 0 (.val 1 (.val 2 (.val 3 (.val 4 (.val 5 (.val 6 (.val 7 (.val 8 (.val 9 (.val 10 (.done)))))))))))) rfl (by kernel_rfl) ?_;simp[h1,h2];refine Qb rfl (fun h=> ?_) (fun h=> ?_)
    ·rw[if_pos (by simpa using h)]at hI;repeat first|(refine r_ ?_;simp[hw])|refine q_ ?_
     refine Qc (sl':=[(0,LIv l),(1,LIv m),(6,.i (i+1:Nat)),(7,.i k)]) ?_ (by simp);exact ih (i+1,k) ⟨by omega,hk,by rw[wN h2];exact hI⟩ (by simp;omega)
    ·rw[if_neg (by simpa using h)]at hI;repeat first|(refine r_ ?_;simp[z1])|refine q_ ?_
     refine Qc (sl':=[(0,LIv l),(1,LIv m),(6,.i i),(7,.i (k+1:Nat))]) ?_ (by simp);exact ih (i,k+1) ⟨hi,by omega,by rw[wN h1];exact hI⟩ (by simp;omega)
  ·have h3:k=m.length:=by omega
   subst h3;repeat first|(refine r_ ?_;simp[h1])|refine q_ ?_
   refine Qb rfl (fun h=>by simp at h) (fun _=> ?_);repeat first|(refine r_ ?_;simp)|refine q_ ?_
   rw[xS,wN h1,Cq]at hI;rw[←hI];rfl
 ·have h3:i=l.length:=by omega
  subst h3;repeat first|(refine r_ ?_;simp)|refine q_ ?_
  refine Qb rfl (fun h=>by simp at h) (fun _=> ?_);repeat first|(refine r_ ?_;simp)|refine q_ ?_
  rw[xS,q05]at hI;rw[←hI];rfl
def Nv:Option Sy→AV
 |some x=> .tup [encSy x,.bool true]
 |none=> .tup [encSy ⟨0,0⟩,.bool false]
theorem y1u(p q:Prd)(f t:Nat):lqB p q (f+1) t=match Jk (p.getD t []) (q.getD t [])with|some n=>some ⟨t,n⟩|none=>lqB p q f (t+1):=rfl
attribute [local irreducible] lqB Eh
theorem Av(T:Nat)(p q:Prd)(hp:PWf T p)(hq:PWf T q)(z7:∀s∈p,s.length≤1000000000)(z8:∀s∈q,s.length≤1000000000)(hT:T≤1000):PC Tryz.prog 139 [encP p,encP q] (fun r=>r=Nv (Eh p q)):=by
 refine Qk tOk Tryz.func139 rfl Tryz.results139 rfl (by simp[Tryz.ntmps139]) ?_;rw[Tryz.ntmps139];simp only[Qg];simp only[encP];have zd:=hp.1;have ze:=hq.1;obtain⟨R,hR⟩:∃R,Eh p q=R:=⟨_,rfl⟩
 rw[hR];rw[←w28 hp hq]at hR;repeat first|(refine r_ ?_;simp)|refine q_ ?_
 refine Qy p.length (fun i=>lqB p q (T - i) i=R) (fun i=>[(2,.vptr 0 0),(3,.vptr 1 0),(4,.vptr 2 0),(11,.i p.length),(12,.i i)]) (fun _=>[.vars [.list (p.map encL)],.vars [.list (q.map encL)],.vars [.i 0,.i 0]]) rfl (by simp) (by simp) (by simp) (by simp) (by simpa using hR) ?_;intro i hi hI ih;repeat first|(refine r_ ?_;simp)|refine q_ ?_
 refine Qb rfl (fun za=> ?_) (fun zb=> ?_)
 ·have z1:i<p.length:=by simpa using za
  have z6:i<q.length:=by omega
  have hw:IntKind.i64.wrap ((i:Int)+1)=i+1:=wrap_i64 _ (by omega) (by omega);rw[show T - i=(T - (i+1))+1 by omega,y1u,Wx z1,Wx z6]at hI;repeat first|(refine r_ ?_;simp)|refine q_ ?_
  refine Qs tOk mixed [] (.val 0 (.val 1 (.val 2 (.val 3 (.val 4 (.val 5 (.val 6 (.val 7 (.val 8 (.val 9 (.one 10 (.val 11 (.val 12 (.val 13 (.val 14 (.val 15 (.done))))))))))))))))) rfl (by kernel_rfl) ?_;simp[z1,z6];refine Qe rfl rfl (by simp) (w04 p[i] q[i] (z7 _ (zL z1)) (z8 _ (zL z6))) rfl ?_;rintro _ rfl;simp;cases hc:Jk p[i] q[i]with
  |some n=>
   rw[hc]at hI;simp[u1i];repeat first|(refine r_ ?_;simp)|refine q_ ?_
   refine Qj rfl ?_;repeat first|(refine r_ ?_;simp)|refine q_ ?_
   rw[←hI];rfl
  |none=>
   rw[hc]at hI;simp[u1i];repeat first|(refine r_ ?_;simp)|refine q_ ?_
   refine Qj rfl ?_;repeat first|(refine r_ ?_;simp[hw])|refine q_ ?_
   refine Qz _ (ih z1 hI) rfl (by simp) ?_ (by simp) (by simp);simp
 ·have zc:i=p.length:=by simp at zb;omega
  subst zc;repeat first|(refine r_ ?_;simp)|refine q_ ?_
  rw[show T - p.length=0 by omega]at hI;rw[←hI];unfold lqB;rfl
theorem Ks(x y:Sy):PC Tryz.prog 148 [encSy x,encSy y] (fun r=>r= .bool (Cm x y)):=by
 refine Qk tOk Tryz.func148 rfl Tryz.results148 rfl (by simp[Tryz.ntmps148]) ?_;rw[Tryz.ntmps148];simp only[Qg];simp only[encSy,Cm];by_cases h1:x.ty<y.ty
 ·repeat first|(refine r_ ?_;simp[h1])|refine q_ ?_
 ·by_cases h2:x.ty=y.ty
  ·repeat first|(refine r_ ?_;simp[h1,h2])|refine q_ ?_
  ·have hb:(x.ty==y.ty)=false:=by simpa using h2
   repeat first|(refine r_ ?_;simp[h1,h2,hb])|refine q_ ?_
theorem u0x(a:Aut)(i:Int):PC Tryz.prog 88 [encA a,.i i] (fun r=>r= .bool (decide (0≤i) && decide (i<a.fin.length))):=by
 refine Qk tOk Tryz.func88 rfl Tryz.results88 rfl (by simp[Tryz.ntmps88]) ?_;rw[Tryz.ntmps88];simp only[Qg];simp only[encA];by_cases h1:0≤i
 ·repeat first|(refine r_ ?_;simp[h1])|refine q_ ?_
 ·repeat first|(refine r_ ?_;simp[h1])|refine q_ ?_
end Go.Abs
namespace Go.Abs
open Go Go.Proofs Go.Maps Go.RowKit
attribute [local irreducible] Pu z0m Wk Sm y1z
theorem Fa(a:Aut):PC Tryz.prog 84 [encA a] (fun r=>r= .i (Yl a)):=by
 refine Qk tOk Tryz.func84 rfl Tryz.results84 rfl (by simp[Tryz.ntmps84]) ?_;rw[Tryz.ntmps84];simp only[Qg];simp only[encA];repeat first|(refine r_ ?_;simp)|refine q_ ?_
 refine Qe rfl rfl (by simp) (Y4 a) rfl ?_;rintro _ rfl;simp;repeat first|(refine r_ ?_;simp)|refine q_ ?_
 refine Qb rfl (fun h=> ?_) (fun h=> ?_)
 ·repeat first|(refine r_ ?_;simp)|refine q_ ?_
  rw[Yl,if_pos (by simpa using h)]
 have h0:Wk a=0:=by simpa using h
 have z6:=(U4 a).1 h0;rw[Yl,if_neg (fun k=>k h0)];have hd:y1z a=(z0m a,0):=by unfold y1z;rw[if_pos h0]
 repeat first|(refine r_ ?_;simp)|refine q_ ?_
 refine Qe rfl rfl (by simp) (g1q a) rfl ?_;rintro _ rfl;simp[hd];cases hs:z0m a with
 |false=>
  repeat first|(refine r_ ?_;simp[hs])|refine q_ ?_
  refine Qj rfl ?_;repeat (first|(refine r_ ?_;simp)|refine q_ ?_)
 |true=>
  repeat first|(refine r_ ?_;simp[hs])|refine q_ ?_
  refine Qj rfl ?_;repeat first|(refine r_ ?_;simp)|refine q_ ?_
  refine Qe rfl rfl (by simp) (Hr a) rfl ?_;rintro _ rfl;simp;have z1:=k1i z6;generalize Sm a=c at *
  by_cases he:c.1=0
  ·by_cases hl:c.2.fin.length=a.fin.length
   ·rw[z1.1 ⟨he,hl⟩];repeat first|(refine r_ ?_;simp[he,hl])|refine q_ ?_
    refine Qj rfl ?_;repeat first|(refine r_ ?_;simp)|refine q_ ?_
   ·have hf:Pu a=false:=by
     cases hf:Pu a
     ·rfl
     ·exact absurd (z1.2 hf).2 hl
    have z7:((c.2.fin.length:Int) != a.fin.length)=true:=by simp;omega
    have z8:¬(c.2.fin.length:Int)=a.fin.length:=by omega
    rw[hf];repeat first|(refine r_ ?_;simp[he,z7,z8,hl])|refine q_ ?_
    refine Qj rfl ?_;repeat first|(refine r_ ?_;simp)|refine q_ ?_
  ·have hf:Pu a=false:=by
    cases hf:Pu a
    ·rfl
    ·exact absurd (z1.2 hf).1 he
   have za:(c.1 != 0)=true:=by simpa using he
   rw[hf];repeat first|(refine r_ ?_;simp[za])|refine q_ ?_
   refine Qj rfl ?_;repeat first|(refine r_ ?_;simp)|refine q_ ?_
end Go.Abs
