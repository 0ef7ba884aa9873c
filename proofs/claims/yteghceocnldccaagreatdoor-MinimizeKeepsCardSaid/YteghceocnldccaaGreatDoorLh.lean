/- Part Lh of the proof: an abstract machine over the model, and what the functions of the program hand back in its terms. No condition. -/
import Derived.Test.YteghceocnldccaaGreatDoorLg
import Derived.Test.YteghceocnldccaaGreatDoorLc
import Derived.Test.YteghceocnldccaaGreatDoorLf
import Derived.DeepKeys4
import Derived.Test.YteghceocnldccaaGreatDoorLd
import Derived.Test.YteghceocnldccaaGreatDoorLe
set_option linter.all false
open List renaming take_succ_eq_append_getElem→zV,filter_append→vY,filter_cons→uF,filter_nil→tE,length_filter_le→xR,range→yL,getElem?_append_left→zF,ext_getElem?→xT,getElem?_set_self→zO,getElem?_set_ne→zE,getElem?_eq_none→xA,map_congr_left→xL,map_map→vB,mem_range→yV,take_of_length_le→zY,mem_map→zT,length_cons→yW,length_nil→tF,getElem_mem→zL,getElem?_append_right→zK,getElem_eq_iff→yP,getElem?_eq_getElem→zJ,take_length→y_,flatMap_append→wA,filterMap_append→t6,take_append_drop→xW,getElem?_map→zW,append_nil→xK,append_assoc→xP,range_succ→wH,mem_of_getElem?→zH,map_append→yZ,length_append→z_,nodup_append→vG,map_id'→tV,mem_append→zU,filter_congr→tt
open Nat renaming le_trans→yO,le_refl→zR,zero_le→xY,mul_le_mul→td
open Option renaming map_eq_some_iff→zQ
open Bool renaming false_eq_true→uy
set_option maxHeartbeats 8000000
set_option linter.unusedSimpArgs false
set_option maxRecDepth 100000
namespace Go.Abs
open Go Go.Proofs Go.Maps Go.RowKit
attribute [local irreducible] Wk
attribute [local irreducible] O3 Pu x0o Wq f0g w2u Wu
end Go.Abs
namespace Go.Abs
open Go Go.Proofs Go.Maps Go.RowKit
section
variable {P:Program} [Env P] {T:TT} {nt k:Nat} {S:AS}
theorem Ud (hT:TOk P T) (hm:P.follows .mixedOrders=true) {Q:Exit→AS→Prop} {id:Nat} {l:List Oper} (Wr:List Nat) (p:PlanM) (Ph:AS→Prop) (hd:Yu nt l=true)
  (hp:(Region.noSelect l.toArray && p.size==l.length && Ym l.toArray (Ua l []) Wr p (Array.replicate l.length false))=true)
  (h:Y8 P T nt k l.toArray Wr.contains Ph p S) (hn:∀S',Ph S'→Q .normal S'):AWP P nt k (.region id l.toArray true) Q S:=
 (Hy (Q:=fun e S=>e= .normal∧Ph S) hT hm Wr p hd hp (Ee (fun _ h=>⟨rfl,h⟩) p S h)).mono fun e S ⟨he,hr⟩=>by subst he;exact hn S hr
end
attribute [local irreducible] Es upL
end Go.Abs
namespace Go.Abs
open Go Go.Proofs Go.Maps Go.RowKit
attribute [simp] y2q z2q y2y q2l z2r z2n
def Tp(a:Aut)(j k:Nat):List Mv:=(a.mv.take j).filter fun m=>decide (m.src=(k:Int)) && !Wp m.on
theorem d0h(a:Aut)(k:Nat):Tp a a.mv.length k=Qw a k:=by simp[Tp,Qw]
theorem Ue(a:Aut)(k:Nat):Tp a 0 k=[]:=by simp[Tp]
theorem y0b(a:Aut){j:Nat}(h:j<a.mv.length)(k:Nat):Tp a (j+1) k=Tp a j k++(if decide (a.mv[j].src=(k:Int)) && !Wp a.mv[j].on then [a.mv[j]]else []):=by
 unfold Tp;rw[zV h,vY]
 congr 1
 rw[uF,tE]
theorem j0a(a:Aut)(j k:Nat):(Tp a j k).length≤a.mv.length:=by unfold Tp;refine yO (xR _ _) ?_;rw[List.length_take];omega
def Tm(l:List Mv):AV:= .list (l.map encMv)
def Ra(a:Aut):List AV:=(yL a.fin.length).map fun k:Nat=>Tm (Qw a k)
def Q3(a:Aut):List AV:=[.i a.types,.list (a.fin.map .bool),.list (a.mv.map encMv),.list (Ra a)]
def Ei(a:Aut):AV:= .agg (Q3 a)
def Sj(p:Nat)(xs:List Mv):AV:=if xs=[]then .nils else .sl p 3 0 xs.length
def F4(n:Nat)(L:Nat→Nat)(rs:Nat→List Mv):List AV:=(yL n).map fun k=>Sj (L k) (rs k)
theorem Iu(n:Nat)(L:Nat→Nat)(rs:Nat→List Mv):(F4 n L rs).length=n:=by simp[F4]
theorem Hd{n:Nat}(L:Nat→Nat)(rs:Nat→List Mv){k:Nat}(h:k<n):(F4 n L rs)[k]? =some (Sj (L k) (rs k)):=by simp[F4,h]
structure MR (K:List AObj) (n o:Nat) (rs:Nat→List Mv) (L:Nat→Nat) (H:List AObj):Prop where
 out:H[o]? =some (.va 23 1 (F4 n L rs))
 leaf:∀k,k<n→rs k≠[]→H[L k]? =some (.arr 78 3 ((rs k).map encMv))
 inj:∀k k',k<n→k'<n→rs k≠[]→rs k'≠[]→L k=L k'→k=k'
 ne:∀k,k<n→rs k≠[]→L k≠o
 geo:K.length≤o
 geL:∀k,k<n→rs k≠[]→K.length≤L k
 keep:∀j,j<K.length→H[j]? =K[j]?
theorem MR.grow{K:List AObj}{n o:Nat}{rs:Nat→List Mv}{L:Nat→Nat}{H:List AObj}(h:MR K n o rs L H)(E:List AObj):MR K n o rs L (H++E):=by have z1:=h.geo;have ho:=Qf h.out;exact⟨Qa h.out E,fun k hk hn=>Qa (h.leaf k hk hn) E,h.inj,h.ne,h.geo,h.geL,fun j hj=>by rw[zF (by omega)];exact h.keep j hj⟩
theorem MR.put {K:List AObj} {n o:Nat} {rs:Nat→List Mv} {L:Nat→Nat} {H H':List AObj} (h:MR K n o rs L H) {i:Nat} (hi:i<n) {m:Mv} {np:Nat} (zc:H.length≤np)
  (za:H'[o]? =some (.va 23 1 ((F4 n L rs).set i (.sl np 3 0 ((rs i).length+1))))) (z6:H'[np]? =some (.arr 78 3 ((rs i++[m]).map encMv)))
  (hk:∀j,j<H.length→j≠o→(rs i≠[]→j≠L i)→H'[j]? =H[j]?):MR K n o (fun k=>if k=i then rs i++[m]else rs k) (fun k=>if k=i then np else L k) H':=by
 have lo:=Qf h.out;have lL:=fun k hk hn=>Qf (h.leaf k hk hn);refine⟨?_,fun k z1 hn=> ?_,fun k k' z1 z7 hn z8 e=> ?_,fun k z1 hn=> ?_,h.geo,fun k z1 hn=> ?_,fun j hj=> ?_⟩
 ·rw[za]
  congr 2
  refine xT fun k=> ?_;by_cases z1:k<n
  ·rw[Hd _ _ z1];by_cases e:k=i
   ·subst e;rw[zO (by rw[Iu];exact z1)];simp[Sj]
   ·rw[zE (fun e'=>e e'.symm),Hd _ _ z1];simp[e]
  ·rw[xA (by rw[List.length_set,Iu];omega),xA (by rw[Iu];omega)]
 ·by_cases e:k=i
  ·subst e;simpa using z6
  ·simp only[e,if_false]at hn ⊢;rw[hk _ (lL k z1 hn) (h.ne k z1 hn) (fun zb e'=>e (h.inj k i z1 hi hn zb e'))];exact h.leaf k z1 hn
 ·by_cases e1:k=i
  ·by_cases e2:k'=i
   ·rw[e1,e2]
   ·simp only[e1,e2,if_true,if_false]at e z8;have:=lL k' z7 z8;omega
  ·by_cases e2:k'=i
   ·simp only[e1,e2,if_true,if_false]at e hn;have:=lL k z1 hn;omega
   ·simp only[e1,e2,if_false]at e hn z8;exact h.inj k k' z1 z7 hn z8 e
 ·by_cases e:k=i
  ·simp only[e,if_true];omega
  ·simp only[e,if_false]at hn ⊢;exact h.ne k z1 hn
 ·have zd:=h.geo;by_cases e:k=i
  ·simp only[e,if_true];omega
  ·simp only[e,if_false]at hn ⊢;exact h.geL k z1 hn
 ·have ze:=h.geo;rw[hk j (by omega) (by omega) (fun zb e=>by have:=h.geL i hi zb;omega)];exact h.keep j hj
def N2(n:Nat)(L:Nat→Nat)(rs:Nat→List Mv)(k:Nat):List AV:=(yL n).map fun i=>if i<k∧rs i≠[]then Tm (rs i)else Sj (L i) (rs i)
section
variable {P:Program} [Env P] {nt kk:Nat} {cd:Code} {Q:Exit→AS→Prop}
theorem c0c(n:Nat)(L:Nat→Nat)(rs:Nat→List Mv):N2 n L rs 0=F4 n L rs:=by unfold N2 F4;exact xL fun i _=>by rw[if_neg (by omega)]
theorem w14{n:Nat}{L:Nat→Nat}{rs:Nat→List Mv}{k:Nat}(h:rs k=[]):N2 n L rs (k+1)=N2 n L rs k:=by
 unfold N2;refine xL fun i _=> ?_;by_cases e:i=k
 ·subst e;simp[h]
 ·by_cases h2:i<k
  ·simp[h2,show i<k+1 by omega]
  ·simp[h2,show ¬i<k+1 by omega]
theorem y17{i c:Nat}{ys:List AV}{xs:List Mv}{p:Nat}(h:xs=[]∨p≠i):(Sj p xs).fz i c ys=Sj p xs:=by
 unfold Sj;split
 ·simp[AV.fz]
 ·rw[AV.fz,if_neg];rintro⟨e,_⟩;rcases h with h|h
  ·contradiction
  ·exact h e
theorem u05{n:Nat}{L:Nat→Nat}{rs:Nat→List Mv}(z1:∀k k',k<n→k'<n→rs k≠[]→rs k'≠[]→L k=L k'→k=k'){k:Nat}(hk:k<n)(h:rs k≠[]):
  (N2 n L rs k).map (AV.fz (L k) 3 ((rs k).map encMv))=N2 n L rs (k+1):=by
 unfold N2;rw[vB];refine xL fun i hi=> ?_;have z6:=yV.1 hi;simp only[Function.comp_apply];by_cases e:i=k
 ·subst e;simp only[Nat.lt_irrefl,false_and,if_false];rw[if_pos ⟨by omega,h⟩,Sj,if_neg h,AV.fz,if_pos ⟨rfl,rfl,by simp⟩];simp[Tm,zY]
 ·by_cases h2:i<k∧rs i≠[]
  ·rw[if_pos h2,if_pos ⟨by omega,h2.2⟩];simp[Tm,AV.fz]
  ·rw[if_neg h2,if_neg (fun h3=>h2 ⟨by omega,h3.2⟩)];refine y17 ?_;by_cases hr:rs i=[]
   ·exact .inl hr
   ·exact .inr fun e2=>e (z1 i k z6 hk hr h e2)
theorem MR.freeze {n o:Nat} {rs:Nat→List Mv} {L:Nat→Nat} {sl:List (Nat×AV)} (z1:∀k k',k<n→k'<n→rs k≠[]→rs k'≠[]→L k=L k'→k=k') (z7:∀k,k<n→rs k≠[]→L k≠o)
  (zb:∀k,k<n→rs k≠[]→sl.map (fun p=>(p.1,p.2.fz (L k) 3 ((rs k).map encMv)))=sl):∀(d k:Nat) (H:List AObj),k+d=n→H[o]? =some (.va 23 1 (N2 n L rs k))→(∀i,k≤i→i<n→rs i≠[]→H[L i]? =some (.arr 78 3 ((rs i).map encMv)))→
  (∀H',H'[o]? =some (.va 23 1 (N2 n L rs n))→(∀j,j<H.length→j≠o→(∀i,k≤i→i<n→rs i≠[]→j≠L i)→H'[j]? =H[j]?)→AWP P nt kk cd Q ⟨sl,H'⟩)→AWP P nt kk cd Q ⟨sl,H⟩
 |0,k,H,hd,ho,hl,h=>by
  have:k=n:=by omega
  subst this;exact h H ho fun _ _ _ _=>rfl
 |d+1,k,H,hd,ho,hl,h=>by
  by_cases hr:rs k=[]
  ·refine MR.freeze z1 z7 zb d (k+1) H (by omega) (by rw[w14 hr];exact ho) (fun i hi=>hl i (by omega)) fun H' zc zd=>h H' zc fun j hj z8 za=>zd j hj z8 fun i hi=>za i (by omega)
  ·have z6:k<n:=by omega
   have zg:=z7 k z6 hr;have zh:=hl k (zR _) z6 hr;refine Uq (L k) zh o ho (Ne.symm zg) rfl ?_;rw[zb k z6 hr];have zi:=Qf ho;have e:AObj.fz (L k) 3 ((rs k).map encMv) (.va 23 1 (N2 n L rs k))= .va 23 1 (N2 n L rs (k+1)):=by rw[AObj.fz,u05 z1 z6 hr]
   rw[e];refine MR.freeze z1 z7 zb d (k+1) _ (by omega) (zO (by simpa using zi)) (fun i hi ze zf=> ?_) fun H' zc zd=>h H' zc fun j hj z8 za=> ?_
   ·rw[zE (Ne.symm (z7 i ze zf)),zE (fun e2=>by have:=z1 k i z6 ze hr zf e2;omega)];exact hl i (by omega) ze zf
   ·rw[zd j (by simpa using hj) z8 fun i hi=>za i (by omega),zE (Ne.symm z8),zE (Ne.symm (za k (zR _) z6 hr))]
end
theorem u1y(n:Nat)(L:Nat→Nat)(rs:Nat→List Mv):(N2 n L rs n).all (fun x=>x.cells.all AV.pure)=true∧(N2 n L rs n).map AV.nrm=(yL n).map fun k=>Tm (rs k):=by
 have hc:∀i,i<n→(if i<n∧rs i≠[]then Tm (rs i)else Sj (L i) (rs i))=if rs i=[]then .nils else Tm (rs i):=fun i hi=>by
  by_cases hr:rs i=[]
  ·rw[if_neg (fun h=>h.2 hr),if_pos hr,Sj,if_pos hr]
  ·rw[if_pos ⟨hi,hr⟩,if_neg hr]
 have e:N2 n L rs n=(yL n).map fun i=>if rs i=[]then .nils else Tm (rs i):=xL fun i hi=>hc i (yV.1 hi)
 rw[e];constructor
 ·rw[List.all_map,List.all_eq_true];intro i _;simp only[Function.comp_apply];split
  ·simp[AV.cells,AV.pure]
  ·simp[Tm,AV.cells,AV.pure]
 ·rw[vB];refine xL fun i _=> ?_;simp only[Function.comp_apply];split
  ·rename_i h;rw[h];simp[Tm,AV.nrm]
  ·simp[Tm,AV.nrm]
attribute [local irreducible] Tp Eh Qw
theorem R4(a:Aut)(ha:OkA a):PC Tryz.prog 81 [encA a] (fun r=>r=Ei a):=by
 refine Qk tOk Tryz.func81 rfl Tryz.results81 rfl (by simp[Tryz.ntmps81]) ?_;rw[Tryz.ntmps81];simp only[Qg];simp only[encA];have y4:=ha.fin;have yf:=ha.mvs;repeat first|(refine r_ ?_;simp)|refine q_ ?_
 refine Ud (P:=Tryz.prog) tOk mixed [7] (.val 0 (.val 1 (.val 2 (.val 3 (.two 4 (.val 5 (.one 6 (.one 7 (.done)))) 6 (.one 4 (.val 5 (.one 7 (.done))))))))) (fun S'=>∃o c:Nat,o≠c∧2≤o∧2≤c∧S'.hp[0]? =some (.vars (Q7 a))∧S'.hp[1]? =some (.vars [.i 0,.nils,.nils,.nils])∧S'.hp[o]? =some (.arr 23 1 (List.replicate a.fin.length .nils))∧S'.hp[c]? =some (.vars [.i a.types,.list (a.fin.map .bool),.list (a.mv.map encMv),.sl o 1 0 a.fin.length])∧look S'.sl 1=some (.vptr 0 0)∧look S'.sl 2=some (.vptr 1 0)∧look S'.sl 3=some (.vptr c 0)) rfl (by kernel_rfl) ?_ ?_
 ·simp
  repeat' (first
   |refine And.intro ?_ ?_
   |(refine W4 tOk rfl rfl rfl z2q rfl T23 rfl rfl rfl (n:=a.fin.length) (by simp;omega) (by unfold maxLen;omega) .nils rfl ?_;simp))
  ·exact⟨2,3,by simp[Q7]⟩
  ·exact⟨3,2,by simp[Q7]⟩
 rintro⟨sl,H⟩ ⟨o,c,zq,y5,yg,h0,h1,ho,hc,s1,s2,s3⟩;simp only at h0 h1 ho hc s1 s2 s3;simp;refine Q6 (sl':=[(1,.vptr 0 0),(2,.vptr 1 0),(3,.vptr c 0)]) ?_ (by simp[s1,s2,s3]);refine Fe o ho ?_;refine Wd fun Z hZ=> ?_;have z0:Z[0]? =some (.vars (Q7 a)):=by rw[hZ,zE (by omega)];exact h0
 have zc:Z[c]? =some (.vars [.i a.types,.list (a.fin.map .bool),.list (a.mv.map encMv),.sl o 1 0 a.fin.length]):=by rw[hZ,zE zq];exact hc
 have zM:MR [.vars (Q7 a),.vars [.i 0,.nils,.nils,.nils]] a.fin.length o (Tp a 0) (fun _=>0) Z:=by
  refine⟨?_,fun k _ hn=>absurd (Ue a k) hn,fun k _ _ _ hn=>absurd (Ue a k) hn,fun k _ hn=>absurd (Ue a k) hn,by simpa using y5,fun k _ hn=>absurd (Ue a k) hn,fun j hj=> ?_⟩
  ·rw[hZ,zO (Qf ho)]
   congr 2
   rw[eq_comm,List.eq_replicate_iff];refine⟨Iu _ _ _,fun x hx=> ?_⟩;obtain⟨k,_,rfl⟩:=zT.1 hx;simp[Sj,Ue]
  ·simp only[yW,tF]at hj;rw[hZ,zE (by omega)];rcases j with _|_|j
   ·exact h0
   ·exact h1
   ·omega
 clear hZ h0 h1 ho hc;clear H;repeat first|(refine r_ ?_;simp[z0])|refine q_ ?_
 refine Qo (Qc (sl':=[(1,.vptr 0 0),(2,.vptr 1 0),(3,.vptr c 0),(15,.list (a.mv.map encMv)),(16,.i a.mv.length),(17,.i (0:Nat))]) ?_ (by simp));refine Qn (F:=fun(u:Nat×(Nat→Nat)×List AObj)=>⟨[(1,.vptr 0 0),(2,.vptr 1 0),(3,.vptr c 0),(15,.list (a.mv.map encMv)),(16,.i a.mv.length),(17,.i u.1)],u.2.2⟩)
  (fun u=>u.1≤a.mv.length∧u.2.2[c]? =some (.vars [.i a.types,.list (a.fin.map .bool),.list (a.mv.map encMv),.sl o 1 0 a.fin.length])∧MR [.vars (Q7 a),.vars [.i 0,.nils,.nils,.nils]] a.fin.length o (Tp a u.1) u.2.1 u.2.2) (fun u=>a.mv.length - u.1) ?_ (0,fun _=>0,Z) ⟨xY _,zc,zM⟩
 clear z0 zc zM;clear Z;rintro⟨j,L,G⟩ ⟨hj,gc,gM⟩ ih;simp only at hj gc gM ih ⊢;repeat first|(refine r_ ?_;simp)|refine q_ ?_
 refine Qb rfl (fun y6=> ?_) (fun y7=> ?_)
 ·have zd:j<a.mv.length:=by simpa using y6
  have hw:IntKind.i64.wrap ((j:Int)+1)=j+1:=wrap_i64 _ (by omega) (by omega);have y0:=y0b a zd;have y8:=j0a a j;have zr:=ha.mv _ (zL zd);have zt:=Cf ha (zL zd);have zo:=fun L' G'=>ih (j+1,L',G');simp only at zo;repeat first|(refine r_ ?_;simp[zd])|refine q_ ?_
  generalize a.mv[j]=m at *;refine Qe rfl rfl (by simp) (Av a.types.toNat m.on m.on zr.on.wf zr.on.wf (fun s hs=>by have:=zt s hs;omega) (fun s hs=>by have:=zt s hs;omega) (by have:=ha.types;omega)) rfl ?_
  rintro _ rfl;simp;rw[Bv zr.on.wf];cases hv:Wp m.on with
  |true=>
   have ze:Tp a (j+1)=Tp a j:=funext fun k=>by rw[y0 k,hv];simp
   rw[ze]at zo;simp[Nv,encSy];repeat first|(refine r_ ?_;simp)|refine q_ ?_
   refine Qj rfl ?_;repeat first|(refine r_ ?_;simp[hw])|refine q_ ?_
   refine Qc (sl':=[(1,.vptr 0 0),(2,.vptr 1 0),(3,.vptr c 0),(15,.list (a.mv.map encMv)),(16,.i a.mv.length),(17,.i (j+1:Nat))]) ?_ (by simp);exact zo L _ ⟨by omega,Qa gc _,gM.grow _⟩ (by omega)
  |false=>
   obtain⟨k,hk⟩:∃k:Nat,m.src=k:=⟨m.src.toNat,by have:=zr.src.1;omega⟩
   have z7:k<a.fin.length:=by have:=zr.src.2;omega
   have ze:Tp a (j+1)=fun k'=>if k'=k then Tp a j k++[m]else Tp a j k':=funext fun k'=>by
    rw[y0 k',hv];by_cases e:k'=k
    ·subst e;simp[hk]
    ·have:¬m.src=(k':Int):=by omega
     simp[e,this]
   rw[ze]at zo;simp[Nv,encSy];repeat first|(refine r_ ?_;simp)|refine q_ ?_
   refine Qj rfl ?_;refine Wd fun Z hZ=> ?_;have zc:Z[c]? =some (.vars [.i a.types,.list (a.fin.map .bool),.list (a.mv.map encMv),.sl o 1 0 a.fin.length]):=by rw[hZ];exact Qa gc _
   have zM:MR [.vars (Q7 a),.vars [.i 0,.nils,.nils,.nils]] a.fin.length o (Tp a j) L Z:=by rw[hZ];exact gM.grow _
   have zm:Z[G.length]? =some (.vars [.i m.src,.i m.dst,.list (m.on.map encL)]):=by rw[hZ,zK (by simp)];simp
   clear hZ gc gM y0 ze;generalize G.length=g at *;clear G
   have z6:=Hd L (Tp a j) z7;have zj:=Iu a.fin.length L (Tp a j);have z8:=zM.out;have zu:=zM.leaf k z7;rw[hk]at zm;have zb:∀M,(Z++M)[c]? =some (.vars [.i a.types,.list (a.fin.map .bool),.list (a.mv.map encMv),.sl o 1 0 a.fin.length]):=fun M=>Qa zc M;have outA:∀M,(Z++M)[o]? =some (.va 23 1 (F4 a.fin.length L (Tp a j))):=fun M=>Qa z8 M;have zf:∀M,(Z++M)[g]? =some (.vars [.i k,.i m.dst,.list (m.on.map encL)]):=fun M=>Qa zm M;have zk:∀M hh,(Z++M)[c]'hh= .vars [.i a.types,.list (a.fin.map .bool),.list (a.mv.map encMv),.sl o 1 0 a.fin.length]:=fun M hh=>(yP hh).2 (zb M);have outH:∀M hh,(Z++M)[o]'hh= .va 23 1 (F4 a.fin.length L (Tp a j)):=fun M hh=>(yP hh).2 (outA M);have zl:∀M hh,(Z++M)[g]'hh= .vars [.i k,.i m.dst,.list (m.on.map encL)]:=fun M hh=>(yP hh).2 (zf M);repeat first|(refine r_ ?_;simp)|refine q_ ?_
   generalize zv:F4 a.fin.length L (Tp a j)=RC at *
   have yh:=y8 k;generalize zh:Tp a j k=rs at *
   by_cases hr0:rs=[]
   ·rw[Sj,if_pos hr0]at z6;have zi:∀hh,RC[k]'hh= .nils:=fun hh=>by rw[zJ hh]at z6;exact Option.some.inj z6
    refine Ud (P:=Tryz.prog) tOk mixed [12,14] (.val 0 (.val 2 (.val 4 (.val 5 (.val 6 (.val 7 (.val 8 (.val 9 (.val 10 (.three 1 (.two 3 (.one 11 (.one 12 (.val 13 (.one 14 (.done))))) 11 (.two 3 (.one 12 (.val 13 (.one 14 (.done)))) 12 (.val 3 (.val 13 (.one 14 (.done)))))) 3 (.two 1 (.one 11 (.one 12 (.val 13 (.one 14 (.done))))) 11 (.two 1 (.one 12 (.val 13 (.one 14 (.done)))) 12 (.val 1 (.val 13 (.one 14 (.done)))))) 11 (.three 1 (.two 3 (.one 12 (.val 13 (.one 14 (.done)))) 12 (.val 3 (.val 13 (.one 14 (.done))))) 3 (.two 1 (.one 12 (.val 13 (.one 14 (.done)))) 12 (.val 1 (.val 13 (.one 14 (.done))))) 12 (.val 1 (.val 3 (.val 13 (.one 14 (.done)))))))))))))))) (fun S'=>S'.hp=(Z++[AObj.arr 78 3 [.agg [.i k,.i m.dst,.list (m.on.map encL)]],AObj.arr 78 3 [.agg [.i k,.i m.dst,.list (m.on.map encL)]]]).set o (.va 23 1 (RC.set k (.sl (Z.length+1) 3 0 1)))∧look S'.sl 1=some (.vptr 0 0)∧look S'.sl 2=some (.vptr 1 0)∧look S'.sl 3=some (.vptr c 0)∧look S'.sl 15=some (.list (a.mv.map encMv))∧look S'.sl 16=some (.i a.mv.length)∧look S'.sl 17=some (.i j)) rfl (by kernel_rfl) ?_ ?_
    ·simp[zc,z8,zm,z6,zi,z7,zj,zb,outA,zf,zk,outH,zl]
     repeat' (first
      |refine And.intro ?_ ?_
      |(refine Qi tOk rfl rfl T23 rfl T78 rfl (by decide) (by decide) rfl rfl rfl ?_;simp[zb,outA,zf,zk,outH,zl,z6,zi,z7,zj];refine⟨by simp[W8]<;>omega,?_⟩;simp[zb,outA,zf,zk,outH,zl,z6,zi,z7,zj]))
    ·rintro⟨sl,E⟩ ⟨rfl,s1,s2,s3,s15,s16,s17⟩;simp only at s1 s2 s3 s15 s16 s17;simp;refine Q6 (sl':=[(1,.vptr 0 0),(2,.vptr 1 0),(3,.vptr c 0),(15,.list (a.mv.map encMv)),(16,.i a.mv.length),(17,.i j)]) ?_ (by simp[s1,s2,s3,s15,s16,s17]);repeat first|(refine r_ ?_;simp[hw])|refine q_ ?_
     refine Qc (sl':=[(1,.vptr 0 0),(2,.vptr 1 0),(3,.vptr c 0),(15,.list (a.mv.map encMv)),(16,.i a.mv.length),(17,.i (j+1:Nat))]) ?_ (by simp);have zx:=Qf z8;have za:=zM.put z7 (m:=m) (np:=Z.length+1) (H':=(Z++[AObj.arr 78 3 [.agg [.i k,.i m.dst,.list (m.on.map encL)]],AObj.arr 78 3 [.agg [.i k,.i m.dst,.list (m.on.map encL)]]]).set o (.va 23 1 (RC.set k (.sl (Z.length+1) 3 0 1)))) (by omega)
      (by rw[zO (by simp;omega),zv,zh,hr0];rfl) (by rw[zE (by omega),zK (by omega),zh,hr0];simp[hk]) (fun jj h1 h2 _=>by rw[zE (Ne.symm h2),zF h1])
     rw[zh]at za;exact zo _ _ ⟨by omega,by rw[zE zq];exact zb _,za⟩ (by omega)
   ·rw[Sj,if_neg hr0]at z6;have zi:∀hh,RC[k]'hh= .sl (L k) 3 0 rs.length:=fun hh=>by rw[zJ hh]at z6;exact Option.some.inj z6
    have zp:=zu hr0;have hlo:=zM.ne k z7 (by rw[zh];exact hr0);have y9:L k≠c:=fun e=>by rw[e,zc]at zp;simp at zp
    have ya:L k≠g:=fun e=>by rw[e,zm]at zp;simp at zp
    have yi:=Qf zp;have zg:∀M,(Z++M)[L k]? =some (.arr 78 3 (rs.map encMv)):=fun M=>Qa zp M;have zn:∀M hh,(Z++M)[L k]'hh= .arr 78 3 (rs.map encMv):=fun M hh=>(yP hh).2 (zg M);generalize yb:L k=p at *
    have outS:∀M M',((Z++M).set p .dead++M')[o]? =some (.va 23 1 RC):=fun M M'=>Qa (Qd hlo (outA M) _) M';have outSH:∀M M' hh,((Z++M).set p .dead++M')[o]'hh= .va 23 1 RC:=fun M M' hh=>(yP hh).2 (outS M M');have zw:∀M M',((Z++M).set p .dead++M')[c]? =some (.vars [.i a.types,.list (a.fin.map .bool),.list (a.mv.map encMv),.sl o 1 0 a.fin.length]):=fun M M'=>Qa (Qd y9 (zb M) _) M';have zcSH:∀M M' hh,((Z++M).set p .dead++M')[c]'hh= .vars [.i a.types,.list (a.fin.map .bool),.list (a.mv.map encMv),.sl o 1 0 a.fin.length]:=fun M M' hh=>(yP hh).2 (zw M M');have zy:∀M M',((Z++M).set p .dead++M')[g]? =some (.vars [.i k,.i m.dst,.list (m.on.map encL)]):=fun M M'=>Qa (Qd ya (zf M) _) M';have zmSH:∀M M' hh,((Z++M).set p .dead++M')[g]'hh= .vars [.i k,.i m.dst,.list (m.on.map encL)]:=fun M M' hh=>(yP hh).2 (zy M M');refine Ud (P:=Tryz.prog) tOk mixed [12,14] (.val 0 (.val 2 (.val 4 (.val 5 (.val 6 (.val 7 (.val 8 (.val 9 (.val 10 (.three 1 (.two 3 (.one 11 (.one 12 (.val 13 (.one 14 (.done))))) 11 (.two 3 (.one 12 (.val 13 (.one 14 (.done)))) 12 (.val 3 (.val 13 (.one 14 (.done)))))) 3 (.two 1 (.one 11 (.one 12 (.val 13 (.one 14 (.done))))) 11 (.two 1 (.one 12 (.val 13 (.one 14 (.done)))) 12 (.val 1 (.val 13 (.one 14 (.done)))))) 11 (.three 1 (.two 3 (.one 12 (.val 13 (.one 14 (.done)))) 12 (.val 3 (.val 13 (.one 14 (.done))))) 3 (.two 1 (.one 12 (.val 13 (.one 14 (.done)))) 12 (.val 1 (.val 13 (.one 14 (.done))))) 12 (.val 1 (.val 3 (.val 13 (.one 14 (.done)))))))))))))))) (fun S'=>S'.hp=((Z++[AObj.arr 78 3 [.agg [.i k,.i m.dst,.list (m.on.map encL)]]]).set p .dead++[AObj.arr 78 3 (rs.map encMv++[.agg [.i k,.i m.dst,.list (m.on.map encL)]])]).set o (.va 23 1 (RC.set k (.sl (Z.length+1) 3 0 (rs.length+1))))∧look S'.sl 1=some (.vptr 0 0)∧look S'.sl 2=some (.vptr 1 0)∧look S'.sl 3=some (.vptr c 0)∧look S'.sl 15=some (.list (a.mv.map encMv))∧look S'.sl 16=some (.i a.mv.length)∧look S'.sl 17=some (.i j)) rfl (by kernel_rfl) ?_ ?_
    ·simp[zc,z8,zm,z6,zi,z7,zj,zb,outA,zf,zk,outH,zl,zg,zn]
     repeat' (first
      |refine And.intro ?_ ?_
      |(refine Qi tOk rfl rfl T23 rfl T78 rfl (by decide) (by decide) rfl rfl rfl ?_;simp[zb,outA,zf,zk,outH,zl,z6,zi,z7,zj,zg,zn,outS,outSH,zw,zcSH,zy,zmSH];refine⟨by simp[W8]<;>omega,?_⟩;simp[zb,outA,zf,zk,outH,zl,z6,zi,z7,zj,outS,outSH,zw,zcSH,zy,zmSH])
      |(refine Qi tOk rfl rfl T23 rfl T78 rfl (by decide) (by decide) rfl rfl rfl ?_;simp[zb,outA,zf,zk,outH,zl,z6,zi,z7,zj,zg,zn,outS,outSH,zw,zcSH,zy,zmSH];simp[W8]<;>omega)
      |omega)
    ·rintro⟨sl,E⟩ ⟨rfl,s1,s2,s3,s15,s16,s17⟩;simp only at s1 s2 s3 s15 s16 s17;simp;refine Q6 (sl':=[(1,.vptr 0 0),(2,.vptr 1 0),(3,.vptr c 0),(15,.list (a.mv.map encMv)),(16,.i a.mv.length),(17,.i j)]) ?_ (by simp[s1,s2,s3,s15,s16,s17]);repeat first|(refine r_ ?_;simp[hw])|refine q_ ?_
     refine Qc (sl':=[(1,.vptr 0 0),(2,.vptr 1 0),(3,.vptr c 0),(15,.list (a.mv.map encMv)),(16,.i a.mv.length),(17,.i (j+1:Nat))]) ?_ (by simp);have zx:=Qf z8;have za:=zM.put z7 (m:=m) (np:=Z.length+1) (H':=((Z++[AObj.arr 78 3 [.agg [.i k,.i m.dst,.list (m.on.map encL)]]]).set p .dead++[AObj.arr 78 3 (rs.map encMv++[.agg [.i k,.i m.dst,.list (m.on.map encL)]])]).set o (.va 23 1 (RC.set k (.sl (Z.length+1) 3 0 (rs.length+1))))) (by omega)
      (by rw[zO (by simp;omega),zv,zh]) (by rw[zE (by omega),zK (by simp),zh];simp[hk]) (fun jj h1 h2 h3=>by
       have h4:p≠jj:=fun e=>h3 (by rw[zh];exact hr0) (by rw[yb];exact e.symm);rw[zE (Ne.symm h2),zF (by simp;omega),zE h4,zF h1])
     rw[zh]at za;exact zo _ _ ⟨by omega,by rw[zE zq];exact zw _ _,za⟩ (by omega)
 ·have y1:j=a.mv.length:=by simp at y7;omega
  subst y1;refine Q6 (sl':=[(1,.vptr 0 0),(2,.vptr 1 0),(3,.vptr c 0)]) ?_ (by simp);refine MR.freeze (n:=a.fin.length) (o:=o) gM.inj gM.ne (fun k hk hn=>by simp[AV.fz]) a.fin.length 0 G (by omega) (by rw[c0c];exact gM.out) (fun k _ hk hn=>gM.leaf k hk hn) fun H' y2 zz=> ?_;obtain⟨yc,yd⟩:=u1y a.fin.length L (Tp a a.mv.length);have y3:H'[c]? =some (.vars [.i a.types,.list (a.fin.map .bool),.list (a.mv.map encMv),.sl o 1 0 a.fin.length]):=by rw[zz c (Qf gc) (Ne.symm zq) (fun i _ hi hr e=>by have:=gM.leaf i hi hr;rw[←e,gc]at this;simp at this)];exact gc
  have yj:H'[0]? =some (.vars (Q7 a)):=by rw[zz 0 (by have:=Qf gM.out;omega) (by omega) (fun i _ hi hr e=>by have:=gM.geL i hi hr;simp at this;omega)];exact gM.keep 0 (by simp)
  have ye:H'[1]? =some (.vars [.i 0,.nils,.nils,.nils]):=by rw[zz 1 (by have:=Qf gM.out;omega) (by omega) (fun i _ hi hr e=>by have:=gM.geL i hi hr;simp at this;omega)];exact gM.keep 1 (by simp)
  have zx:=Qf y2;clear zz ih gM gc;refine I3 o y2 yc ?_;refine z0a o (zO zx) ?_;rw[yd,List.set_set];refine Wj o (zO zx) c (by rw[zE zq];exact y3) ?_;refine Wd fun Z hZ=> ?_;have zc:Z[c]? =some (.vars (Q3 a)):=by rw[hZ,zO (by simpa using Qf y3)];simp[AV.fz,Q3,Ra,d0h];rw[zY (by simp)]
  have z1:Z[1]? =some (.vars [.i 0,.nils,.nils,.nils]):=by rw[hZ,zE (by omega),zE (by omega),zE (by omega)];exact ye
  clear hZ;simp[AV.fz];unfold Ei Q3;unfold Q3 at zc;repeat first|(refine r_ ?_;simp[zc,z1,Qh z1])|refine q_ ?_
end Go.Abs
namespace Go.Abs
open Go Go.Proofs Go.Maps Go.RowKit
abbrev Stp:=Sy×(Int×Int)
def k1c(e:Stp):AV:= .agg [.i e.1.ty,.i e.1.num,.i e.2.1,.i e.2.2]
theorem M1(a b:Aut)(p q:Int):PC Tryz.prog 105 [Ei a,Ei b,.i p,.i q] (fun r=>r= .fn (.func 164) [] [.iptr (Q3 a),.iptr [.i p],.iptr (Q3 b),.iptr [.i q]]):=by refine Qk tOk Tryz.func105 rfl Tryz.results105 rfl (by simp[Tryz.ntmps105]) ?_;rw[Tryz.ntmps105];simp only[Qg];simp only[Ei,Q3];repeat first|(refine r_ ?_;simp)|refine q_ ?_
def Xl(b:Aut)(q:Int)(m:Mv)(j:Nat):List Stp:=((Qw b q).take j).filterMap fun n=>(Eh m.on n.on).map fun x=>(x,(m.dst,n.dst))
def I7(a b:Aut)(s:Int×Int)(i:Nat):List Stp:=((Qw a s.1).take i).flatMap fun m=>Xl b s.2 m (Qw b s.2).length
theorem V3(a b:Aut)(s:Int×Int):I7 a b s (Qw a s.1).length=Wi a b s:=by rw[z1u,I7,y_];unfold Xl;rw[y_]
theorem w05(a b:Aut)(s:Int×Int):I7 a b s 0=[]:=by simp[I7]
theorem d00(b:Aut)(q:Int)(m:Mv):Xl b q m 0=[]:=by simp[Xl]
theorem x0g(a b:Aut)(s:Int×Int){i:Nat}(h:i<(Qw a s.1).length):I7 a b s (i+1)=I7 a b s i++Xl b s.2 (Qw a s.1)[i] (Qw b s.2).length:=by unfold I7;rw[zV h,wA];simp
theorem j0h(b:Aut)(q:Int)(m:Mv){j:Nat}(h:j<(Qw b q).length):Xl b q m (j+1)=Xl b q m j++(match Eh m.on (Qw b q)[j].on with|some x=>[(x,(m.dst,(Qw b q)[j].dst))]|none=>[]):=by
 unfold Xl;rw[zV h,t6]
 congr 1
 cases hx:Eh m.on (Qw b q)[j].on<;>simp[hx]
theorem w1u(b:Aut)(q:Int)(m:Mv)(j:Nat):∃r,Xl b q m (Qw b q).length=Xl b q m j++r:=by refine⟨((Qw b q).drop j).filterMap fun n=>(Eh m.on n.on).map fun x=>(x,(m.dst,n.dst)),?_⟩;unfold Xl;rw[←t6,xW,y_]
theorem k0z(a b:Aut)(s:Int×Int)(i:Nat):∃r,Wi a b s=I7 a b s i++r:=by refine⟨((Qw a s.1).drop i).flatMap fun m=>Xl b s.2 m (Qw b s.2).length,?_⟩;rw[←V3];unfold I7;rw[←wA,xW,y_]
theorem A6{a:Aut}{s:Int}(h:inS a s):(Ra a)[s.toNat]? =some (Tm (Qw a s)):=by have:=Ak h;unfold Ra;rw[zW,List.getElem?_range this.1];simp[this.2]
theorem N7{a:Aut}(ha:OkA a){s:Int}{m:Mv}(hm:m∈Qw a s):PWf a.types.toNat m.on∧∀t∈m.on,t.length≤256:=by have:=(Eo.1 hm).1;exact⟨ha.wfA.on m this,Cf ha this⟩
theorem Oh(a:Aut)(s:Int):(Qw a s).length≤a.mv.length:=xR _ _
attribute [local irreducible] Qw Eh Xl I7 Ra Wi
theorem C0 (a b:Aut) (ha:OkA a) (hb:OkA b) (ht:b.types=a.types) (p q:Int) (hp:inS a p) (hq:inS b q) (l:Nat) {z8:Nat} {sl':List (Nat×AV)} {ps:List Tmp} {asg body:Code} (y4:ps.length=1) (y5:(ps.all fun p=>decide (p<z8))=true)
  (Inv:List Stp→List AObj→Prop) (Done:Code→List AObj→Prop) (H0:List AObj)
  (hI:∀k H,Inv k H→H[l]? =some (.lp true none z8 sl' ps asg body))
  (z7:∀k H L,Inv k H→Inv k (H++L))
  (zb:∀pre e post H,Wi a b (p,q)=pre++e::post→Inv pre H→H0.length≤H.length→AWP Tryz.prog z8 H.length asg (Pf (AWP Tryz.prog z8 H.length body (q0u l (fun jm K2=>(jm=none∧Inv (pre++[e]) (K2.set l (.lp true none z8 sl' ps asg body))∧∀i cs,H0.length≤i→H[i]? =some (.vars cs)→(K2.set l (.lp true none z8 sl' ps asg body))[i]? =some (.vars cs))∨∃c,jm=some c∧Done c (K2.set l (.lp false (some c) z8 sl' ps asg body))))) (fun _ _=>False)) ⟨Rk sl' ps [k1c e],H.set l .dead⟩)
  (h0:Inv [] H0):FC Tryz.prog 164 [.yld l,.iptr (Q3 a),.iptr [.i p],.iptr (Q3 b),.iptr [.i q]] H0 (fun _ H'=>Inv (Wi a b (p,q)) H'∨∃c,Done c H'):=by
 refine Wy tOk Tryz.func164 rfl Tryz.results164 rfl (by simp[Tryz.ntmps164]) ?_;rw[Tryz.ntmps164];simp only[Qg];have zk:=A6 hp;have zl:=A6 hq;have yv:=Ak hp;have yw:=Ak hq;have y6:=Oh a p;have y7:=Oh b q;have yx:=ha.mvs;have yy:=hb.mvs;have y8:=hp.1;have y9:=hq.1;have ya:(Ra a).length=a.fin.length:=by unfold Ra;simp
 have yb:(Ra b).length=b.fin.length:=by unfold Ra;simp
 have yc:=hp.2;have yd:=hq.2;simp only[Q3,Tm]at zk zl ⊢;have zn:∀hh,(Ra a)[p.toNat]'hh= .list ((Qw a p).map encMv):=fun hh=>by rw[zJ hh]at zk;exact Option.some.inj zk
 have zo:∀hh,(Ra b)[q.toNat]'hh= .list ((Qw b q).map encMv):=fun hh=>by rw[zJ hh]at zl;exact Option.some.inj zl
 repeat first|(refine r_ ?_;simp[zk,zn,y8,yc,ya])|refine q_ ?_
 have ye:(b.types).toNat=a.types.toNat:=by rw[ht]
 refine Qo (Qc (sl':=[(0,.yld l),(1,.iptr [.i a.types,.list (a.fin.map .bool),.list (a.mv.map encMv),.list (Ra a)]),(2,.iptr [.i p]),(3,.iptr [.i b.types,.list (b.fin.map .bool),.list (b.mv.map encMv),.list (Ra b)]),(4,.iptr [.i q]),(16,.list ((Qw a p).map encMv)),(17,.i (Qw a p).length),(18,.i (0:Nat))]) ?_ (by simp));have zp:I7 a b (p,q) (Qw a p).length=Wi a b (p,q):=V3 a b (p,q);have zg:=fun i h=>x0g a b (p,q) (i:=i) h;have zc:=fun m j h=>j0h b q m (j:=j) h;have zh:=fun m j=>w1u b q m j;have zi:=fun i=>k0z a b (p,q) i;have hz:I7 a b (p,q) 0=[]:=w05 a b (p,q);have yf:∀m,Xl b q m 0=[]:=fun m=>d00 b q m;refine Qn (F:=fun(u:Nat×List AObj)=>⟨[(0,.yld l),(1,.iptr [.i a.types,.list (a.fin.map .bool),.list (a.mv.map encMv),.list (Ra a)]),(2,.iptr [.i p]),(3,.iptr [.i b.types,.list (b.fin.map .bool),.list (b.mv.map encMv),.list (Ra b)]),(4,.iptr [.i q]),(16,.list ((Qw a p).map encMv)),(17,.i (Qw a p).length),(18,.i u.1)],u.2⟩)
  (fun u=>u.1≤(Qw a p).length∧Inv (I7 a b (p,q) u.1) u.2∧H0.length≤u.2.length) (fun u=>(Qw a p).length - u.1) ?_ (0,H0) ⟨by simp,by rw[hz];exact h0,zR _⟩
 rintro⟨i,H⟩ ⟨hi,hv,zw⟩ ih;simp only at hi hv zw ih ⊢;repeat first|(refine r_ ?_;simp)|refine q_ ?_
 refine Qb rfl (fun yg=> ?_) (fun yh=> ?_)
 ·have za:i<(Qw a p).length:=by simpa using yg
  have hw:IntKind.i64.wrap ((i:Int)+1)=i+1:=wrap_i64 _ (by omega) (by omega);have zy:=zg i za;obtain⟨yi,yj⟩:=N7 ha (zL za);have yk:∃r,Wi a b (p,q)=(I7 a b (p,q) i++Xl b q (Qw a p)[i] (Qw b q).length)++r:=by obtain⟨r,hr⟩:=zi (i+1);exact⟨r,by rw[hr,zy]⟩
  have zd:((Qw a p).map encMv)[i]? =some (encMv (Qw a p)[i]):=by simp[za]
  have ze:∀hh,((Qw a p).map encMv)[i]'hh=encMv (Qw a p)[i]:=fun hh=>by simp
  have zz:=fun H'=>ih (i+1,H');simp only[zy]at zz;generalize (Qw a p)[i]=m at *
  have yl:=zc m;have ym:=zh m;have yn:=yf m;simp only[encMv]at zd ze;have zq:=z7 _ H [.vars [.i m.src,.i m.dst,.list (m.on.map encL)]] hv;repeat first|(refine r_ ?_;simp[zl,zo,y9,yd,yb,zd,ze,za])|refine q_ ?_
  refine Wd fun Z hZ=> ?_;have zx:Z[H.length]? =some (.vars [.i m.src,.i m.dst,.list (m.on.map encL)]):=by rw[hZ,zK (by simp)];simp
  rw[←hZ]at zq;clear hZ hv zd ze;generalize H.length=x at *;clear H;refine Qo (Qc (sl':=[(0,.yld l),(1,.iptr [.i a.types,.list (a.fin.map .bool),.list (a.mv.map encMv),.list (Ra a)]),(2,.iptr [.i p]),(3,.iptr [.i b.types,.list (b.fin.map .bool),.list (b.mv.map encMv),.list (Ra b)]),(4,.iptr [.i q]),(7,.vptr x 0),(16,.list ((Qw a p).map encMv)),(17,.i (Qw a p).length),(18,.i i),(26,.list ((Qw b q).map encMv)),(27,.i (Qw b q).length),(28,.i (0:Nat))]) ?_ (by simp))
  refine Qn (F:=fun(u:Nat×List AObj)=>⟨[(0,.yld l),(1,.iptr [.i a.types,.list (a.fin.map .bool),.list (a.mv.map encMv),.list (Ra a)]),(2,.iptr [.i p]),(3,.iptr [.i b.types,.list (b.fin.map .bool),.list (b.mv.map encMv),.list (Ra b)]),(4,.iptr [.i q]),(7,.vptr x 0),(16,.list ((Qw a p).map encMv)),(17,.i (Qw a p).length),(18,.i i),(26,.list ((Qw b q).map encMv)),(27,.i (Qw b q).length),(28,.i u.1)],u.2⟩)
   (fun u=>u.1≤(Qw b q).length∧Inv (I7 a b (p,q) i++Xl b q m u.1) u.2∧u.2[x]? =some (.vars [.i m.src,.i m.dst,.list (m.on.map encL)])) (fun u=>(Qw b q).length - u.1) ?_ (0,Z) ⟨by simp,by rw[yn,xK];exact zq,zx⟩
  clear zx zq;clear Z;rintro⟨j,G⟩ ⟨hj,gv,gx⟩ ih2;simp only at hj gv gx ih2 ⊢;repeat first|(refine r_ ?_;simp)|refine q_ ?_
  refine Qb rfl (fun zr=> ?_) (fun zt=> ?_)
  ·have z1:j<(Qw b q).length:=by simpa using zr
   have y0:IntKind.i64.wrap ((j:Int)+1)=j+1:=wrap_i64 _ (by omega) (by omega);have y1:=yl j z1;obtain⟨yo,yp⟩:=N7 hb (zL z1);obtain⟨r1,zm⟩:=ym (j+1);obtain⟨r2,yq⟩:=yk;have zd:((Qw b q).map encMv)[j]? =some (encMv (Qw b q)[j]):=by simp[z1]
   have ze:∀hh,((Qw b q).map encMv)[j]'hh=encMv (Qw b q)[j]:=fun hh=>by simp
   have z6:=fun H'=>ih2 (j+1,H');rw[y1]at zm;simp only[y1]at z6;generalize (Qw b q)[j]=n at *;simp only[encMv]at zd ze
   have zf:∀M,(G++M)[x]? =some (.vars [.i m.src,.i m.dst,.list (m.on.map encL)]):=fun M=>Qa gx M;have zu:∀M hh,(G++M)[x]'hh= .vars [.i m.src,.i m.dst,.list (m.on.map encL)]:=fun M hh=>(yP hh).2 (zf M);repeat first|(refine r_ ?_;simp[zd,ze,z1,zf,zu])|refine q_ ?_
   refine Qe rfl rfl (by simp) (Av a.types.toNat m.on n.on yi (by rw[←ye];exact yo) (fun s hs=>by have:=yj s hs;omega) (fun s hs=>by have:=yp s hs;omega) (by have:=ha.types;omega)) rfl ?_;rintro _ rfl;simp;cases hx:Eh m.on n.on with
   |none=>
    rw[hx]at zm z6;simp only[xK]at z6;simp[Nv,encSy];repeat first|(refine r_ ?_;simp[zf,zu])|refine q_ ?_
    refine We rfl rfl ?_;simp;repeat first|(refine r_ ?_;simp)|refine q_ ?_
    refine Qb rfl (fun h=>by cases h) (fun _=> ?_);repeat first|(refine r_ ?_;simp[y0])|refine q_ ?_
    refine Qc (sl':=[(0,.yld l),(1,.iptr [.i a.types,.list (a.fin.map .bool),.list (a.mv.map encMv),.list (Ra a)]),(2,.iptr [.i p]),(3,.iptr [.i b.types,.list (b.fin.map .bool),.list (b.mv.map encMv),.list (Ra b)]),(4,.iptr [.i q]),(7,.vptr x 0),(16,.list ((Qw a p).map encMv)),(17,.i (Qw a p).length),(18,.i i),(26,.list ((Qw b q).map encMv)),(27,.i (Qw b q).length),(28,.i (j+1:Nat))]) ?_ (by simp);exact z6 _ ⟨by omega,z7 _ _ _ gv,zf _⟩ (by omega)
   |some y=>
    rw[hx]at zm z6;simp[Nv,encSy];repeat first|(refine r_ ?_;simp[zf,zu])|refine q_ ?_
    have y2:=z7 _ G [.vars [.i n.src,.i n.dst,.list (n.on.map encL)],.vars [.i y.ty,.i y.num]] gv;have y3:=zf [.vars [.i n.src,.i n.dst,.list (n.on.map encL)],.vars [.i y.ty,.i y.num]];have yr:H0.length≤(G++[AObj.vars [.i n.src,.i n.dst,.list (n.on.map encL)],AObj.vars [.i y.ty,.i y.num]]).length:=by have:=Qf y3;omega
    have i1:=hI _ _ y2;have yt:=zb (I7 a b (p,q) i++Xl b q m j) (y,(m.dst,n.dst)) (r1++r2) _ (by rw[yq,zm];simp) y2 yr;generalize G++[AObj.vars [.i n.src,.i n.dst,.list (n.on.map encL)],AObj.vars [.i y.ty,.i y.num]]=Y at *;refine Yb rfl rfl (q:=l) rfl rfl i1 y4 y5 rfl (fun jm K2=>(jm=none∧Inv (I7 a b (p,q) i++Xl b q m j++[(y,(m.dst,n.dst))]) (K2.set l (.lp true none z8 sl' ps asg body))∧∀i cs,H0.length≤i→Y[i]? =some (.vars cs)→(K2.set l (.lp true none z8 sl' ps asg body))[i]? =some (.vars cs))∨∃c,jm=some c∧Done c (K2.set l (.lp false (some c) z8 sl' ps asg body))) ?_ ?_
    ·exact yt
    ·rintro jm K2 (⟨rfl,hK,yu⟩|⟨c,rfl,hD⟩)
     ·simp;repeat first|(refine r_ ?_;simp)|refine q_ ?_
      refine Qb rfl (fun h=>by cases h) (fun _=> ?_);repeat first|(refine r_ ?_;simp[y0])|refine q_ ?_
      refine Qc (sl':=[(0,.yld l),(1,.iptr [.i a.types,.list (a.fin.map .bool),.list (a.mv.map encMv),.list (Ra a)]),(2,.iptr [.i p]),(3,.iptr [.i b.types,.list (b.fin.map .bool),.list (b.mv.map encMv),.list (Ra b)]),(4,.iptr [.i q]),(7,.vptr x 0),(16,.list ((Qw a p).map encMv)),(17,.i (Qw a p).length),(18,.i i),(26,.list ((Qw b q).map encMv)),(27,.i (Qw b q).length),(28,.i (j+1:Nat))]) ?_ (by simp);exact z6 _ ⟨by omega,by rw[←xP];exact hK,yu x _ zw y3⟩ (by omega)
     ·simp;repeat first|(refine r_ ?_;simp)|refine q_ ?_
      refine Qb rfl (fun _=> ?_) (fun h=>by cases h);repeat first|(refine r_ ?_;simp)|refine q_ ?_
      exact .inr ⟨c,hD⟩
  ·have zj:j=(Qw b q).length:=by simp at zt;omega
   subst zj;repeat first|(refine r_ ?_;simp[hw])|refine q_ ?_
   refine Qc (sl':=[(0,.yld l),(1,.iptr [.i a.types,.list (a.fin.map .bool),.list (a.mv.map encMv),.list (Ra a)]),(2,.iptr [.i p]),(3,.iptr [.i b.types,.list (b.fin.map .bool),.list (b.mv.map encMv),.list (Ra b)]),(4,.iptr [.i q]),(16,.list ((Qw a p).map encMv)),(17,.i (Qw a p).length),(18,.i (i+1:Nat))]) ?_ (by simp);exact zz G ⟨by omega,gv,by have:=Qf gx;omega⟩ (by omega)
 ·have zv:i=(Qw a p).length:=by simp at yh;omega
  subst zv;rw[zp]at hv;repeat first|(refine r_ ?_;simp)|refine q_ ?_
  exact .inl hv
end Go.Abs
namespace Go.Abs
open Go Go.Proofs Go.Maps Go.RowKit
theorem Mp:(Tryz.prog).underlying 135=some (.array 2 3):=by kernel_rfl
theorem j1a:(Tryz.prog).underlying 3=some (.int .i64):=by kernel_rfl
theorem Ms:(Tryz.prog).cellsOf 135=2:=by kernel_rfl
theorem d01:(Tryz.prog).cellsOf 3=1:=by kernel_rfl
theorem j1u:(Tryz.prog).keyType 135=true:=by kernel_rfl
theorem k0y:laidOutB Tryz.prog=true:=by kernel_rfl
theorem k1d:(Tryz.prog).keyTypeAt 3 135=true:=by kernel_rfl
theorem x1c:135<(Tryz.prog).types.size:=of_decide_eq_true (by kernel_rfl)
theorem Ls:Keyed Tryz.prog 135:=Keyed.of_law (deep_law_laid k0y (m:=3) (by decide) x1c k1d (by rw[Mp]))
def kyP(s:Int×Int):AV:= .agg [.i s.1,.i s.2]
def okK(s:Int×Int):Prop:=(0≤s.1∧s.1≤1000000)∧(0≤s.2∧s.2≤1000000)
theorem B1{s t:Int×Int}(h:kyP s=kyP t):s=t:=by unfold kyP at h;simp at h;exact Prod.ext h.1 h.2
theorem keyLits_int(d:Nat){z:Int}(h:0≤z∧z≤1000000):(Tryz.prog).keyLits (d+1) 3 [.int .i64 z]=some [.int .i64 z]:=by unfold Program.keyLits;rw[j1a];simp[x19 h]
theorem y09(d:Nat){s:Int×Int}(h:okK s):(Tryz.prog).keyLits (d+2) 135 [.int .i64 s.1,.int .i64 s.2]=some [.int .i64 s.1,.int .i64 s.2]:=by unfold Program.keyLits;rw[Mp];simp only[Ms,d01,yW,tF,if_true];have h1:=keyLits_int d h.1;have h2:=keyLits_int d h.2;simp[wH,h1,h2]
theorem types_size:∃d,(Tryz.prog).types.size+1=d+2:=⟨(Tryz.prog).types.size - 1,by have:=x1c;omega⟩
theorem Fq{s:Int×Int}(h:okK s):isKey Tryz.prog 135 (kyP s):=by
 refine⟨.agg #[.int .i64 s.1,.int .i64 s.2],.string (keyBytes [.int .i64 s.1,.int .i64 s.2]),rfl,?_⟩;obtain⟨d,hd⟩:=types_size;unfold keyOf;rw[Mp];simp only;have hf:Value.formed Tryz.prog 135 (.agg #[.int .i64 s.1,.int .i64 s.2])=true:=by unfold Value.formed;rw[Mp,Ms];rfl
 rw[j1u,hf,hd];have:(Value.agg #[.int .i64 s.1,.int .i64 s.2]).cells.toList=[.int .i64 s.1,.int .i64 s.2]:=rfl;rw[this,y09 d h];rfl
abbrev It:=List ((Int×Int)×Nat)
def kvN(near:It):List (AV×AV):=near.map fun e=>(kyP e.1,.i e.2)
def mpN(near:It):AObj:= .mp (kvN near)
structure NK (near:It):Prop where
 nd:(near.map (·.1)).Nodup
 ok:∀e∈near,okK e.1
theorem d0e{near:It}(h:NK near){j:Nat}{e:(Int×Int)×Nat}(he:near[j]? =some e):lkN near e.1=some e.2:=by
 unfold lkN;cases hf:near.find? (fun e'=>decide (e'.1=e.1))with
 |none=>rw[List.find?_eq_none]at hf;have:=hf e (zH he);simp at this
 |some e'=>
  have h1:e'.1=e.1:=by simpa using List.find?_some hf
  have h2:=List.mem_of_find?_eq_some hf;obtain⟨i,hi,rfl⟩:=List.getElem_of_mem h2;obtain⟨hj,rfl⟩:=List.getElem?_eq_some_iff.1 he;have h3:i=j:=by have:=(List.getElem_inj (h₀:=by simpa using hi) (h₁:=by simpa using hj) h.nd).1 (by simpa using h1);exact this
  subst h3;rfl
theorem Bu{near:It}(h:NK near):∀p∈kvN near,isKey Tryz.prog 135 p.1:=fun p hp=>by obtain⟨e,he,rfl⟩:=zT.1 hp;exact Fq (h.ok e he)
section
variable {nt k:Nat} {S:AS} {ops:Array Oper} {o:Oper} {R:AS→Prop}
theorem Tb {wr:Bool} (hw:Q1 ops S o=some true) (hd:Ww nt o=true) {x ix:Operand} (ho:o.op= .lookup 132 x ix true) {id:Nat} (hx:rho S.sl x=some (.mref id)) {s:Int×Int} (z1:rho S.sl ix=some (.agg [.i s.1,.i s.2])) {near:It} (z6:S.hp[id]? =some (mpN near)) (hn:NK near) (hs:okK s)
  (hR:R (S.putD o.dst (.tup [.i ((lkN near s).getD 0:Nat),.bool (lkN near s).isSome]))):Wl Tryz.prog nt k wr ops o S R:=by
 refine Yx tOk hw hd ho q2l rfl T3 Ls hx z1 z6 (Fq hs) (Bu hn) (z:= .i 0) rfl (fun j p hp he=> ?_) (fun z7=> ?_)
 ·unfold kvN at hp;rw[zW]at hp;obtain⟨e,z8,rfl⟩:=zQ.1 hp;have za:e.1=s:=B1 he;rw[←za,d0e hn z8]at hR;exact hR
 ·have:lkN near s=none:=by rw[D8];intro hm;obtain⟨e,he,rfl⟩:=zT.1 hm;exact z7 _ (zT.2 ⟨e,he,rfl⟩) rfl
  rw[this]at hR;exact hR
theorem Ve {wr:Bool} (hw:Q1 ops S o=some true) (hd:Ww nt o=true) {x ix:Operand} (ho:o.op= .lookup 132 x ix false) {id:Nat} (hx:rho S.sl x=some (.mref id)) {s:Int×Int} (z1:rho S.sl ix=some (.agg [.i s.1,.i s.2])) {near:It} (z6:S.hp[id]? =some (mpN near)) (hn:NK near) (hs:okK s)
  (hR:R (S.putD o.dst (.i ((lkN near s).getD 0:Nat)))):Wl Tryz.prog nt k wr ops o S R:=by
 refine Dj tOk hw hd ho q2l rfl T3 Ls hx z1 z6 (Fq hs) (Bu hn) (z:= .i 0) rfl (fun j p hp he=> ?_) (fun z7=> ?_)
 ·unfold kvN at hp;rw[zW]at hp;obtain⟨e,z8,rfl⟩:=zQ.1 hp;have za:e.1=s:=B1 he;rw[←za,d0e hn z8]at hR;exact hR
 ·have:lkN near s=none:=by rw[D8];intro hm;obtain⟨e,he,rfl⟩:=zT.1 hm;exact z7 _ (zT.2 ⟨e,he,rfl⟩) rfl
  rw[this]at hR;exact hR
theorem x0z (hw:Q1 ops S o=some true) (hd:Ww nt o=true) {x ix y:Operand} (ho:o.op= .mapUpdate 132 x ix y) {id:Nat} (hx:rho S.sl x=some (.mref id)) {s:Int×Int} (z1:rho S.sl ix=some (.agg [.i s.1,.i s.2])) {d:Nat} (hy:rho S.sl y=some (.i d)) {near:It} (z6:S.hp[id]? =some (mpN near)) (hn:NK near) (hs:okK s)
  (z7:s∉near.map (·.1)) (hR:R (({ S with hp:=S.hp.set id (mpN (near++[(s,d)])) }:AS).putD o.dst (.tup []))):Wl Tryz.prog nt k true ops o S R:=by
 refine Rs tOk hw hd ho q2l rfl Ls hx z1 hy (by simp[AV.pure]) z6 (Fq hs) (Bu hn) (fun j p hp he=> ?_) (fun zb=> ?_)
 ·unfold kvN at hp;rw[zW]at hp;obtain⟨e,z8,rfl⟩:=zQ.1 hp;have za:e.1=s:=B1 he;exact absurd (zT.2 ⟨e,zH z8,za⟩) z7
 ·have:kvN near++[(kyP s,.i d)]=kvN (near++[(s,d)]):=by simp[kvN]
  unfold mpN at hR;rw[←this]at hR;exact hR
end
end Go.Abs
namespace Go.Abs
open Go Go.Proofs Go.Maps Go.RowKit
theorem k0l{a b:Aut}{i j:Nat}(hi:i<a.fin.length)(hj:j<b.fin.length):Tu a b ((i:Int),(j:Int))=(a.fin[i] != b.fin[j]):=by unfold Tu;simp[List.getD,hi,hj]
theorem Zj{a b:Aut}(ha:OkA a)(hb:OkA b){s:Int×Int}{e:Sy×(Int×Int)}(he:e∈Wi a b s):inS a e.2.1∧inS b e.2.2:=by obtain⟨m,hm,n,hn,_,rfl⟩:=Si.1 he;have h1:=(ha.mv m (Eo.1 hm).1).dst;have h2:=(hb.mv n (Eo.1 hn).1).dst;exact⟨⟨h1.1,h1.2⟩,⟨h2.1,h2.2⟩⟩
theorem P9{a b:Aut}(ha:OkA a)(hb:OkA b){s:Int×Int}(h:inS a s.1∧inS b s.2):okK s:=by have h1:=ha.fin;have h2:=hb.fin;obtain⟨⟨_,_⟩,⟨_,_⟩⟩:=h;unfold okK;omega
attribute [local irreducible] Qw Eh Ra Wi Tu lkN
theorem q1b(a:Aut)(ha:OkA a)(H:List AObj)(A:Nat)(hA:H[A]? =some (.vars (Q3 a)))(p q:Int)(hp:inS a p)(hq:inS a q):
  FC Tryz.prog 146 [.i p,.i q,.vptr A 0] H (fun r H'=>r= .bool (Tu a a (p,q))∧H'=H):=by
 refine Wy tOk Tryz.func146 rfl Tryz.results146 rfl (by simp[Tryz.ntmps146]) ?_;rw[Tryz.ntmps146];simp only[Qg];obtain⟨i,rfl⟩:∃i:Nat,p=i:=⟨p.toNat,(Ak hp).2.symm⟩
 obtain⟨j,rfl⟩:∃j:Nat,q=j:=⟨q.toNat,(Ak hq).2.symm⟩
 have hi:i<a.fin.length:=by have:=hp.2;omega
 have hj:j<a.fin.length:=by have:=hq.2;omega
 rw[k0l hi hj];simp only[Q3]at hA;repeat first|(refine r_ ?_;simp)|refine q_ ?_
 refine Qs tOk mixed [] (.val 0 (.val 1 (.val 2 (.val 3 (.val 4 (.val 5 (.val 6 (.val 7 (.val 8 (.val 9 (.val 10 (.val 11 (.val 12 (.val 13 (.done))))))))))))))) rfl (by kernel_rfl) ?_;simp[hA,hi,hj];repeat first|(refine r_ ?_;simp)|refine q_ ?_
 generalize a.fin[i]=x;generalize a.fin[j]=y;cases x<;>cases y<;>rfl
def Xq(near:It)(d:Int)(es:List (Sy×(Int×Int))):Bool:=es.any fun e=>(lkN near e.2).isSome && decide (((lkN near e.2).getD 0:Nat)=d)
theorem d0l(near:It)(d:Int)(pre:List (Sy×(Int×Int)))(e:Sy×(Int×Int)):Xq near d (pre++[e])=(Xq near d pre || ((lkN near e.2).isSome && decide (((lkN near e.2).getD 0:Nat)=d))):=by simp[Xq]
theorem g03{near:It}{d:Int}{pre post:List (Sy×(Int×Int))}{e:Sy×(Int×Int)}(h:((lkN near e.2).isSome && decide (((lkN near e.2).getD 0:Nat)=d))=true):Xq near d (pre++e::post)=true:=by unfold Xq;rw[List.any_append,List.any_cons,h];simp
theorem q1g(near:It)(d:Int):Xq near d []=false:=rfl
attribute [local irreducible] Xq
theorem c03(a:Aut)(ha:OkA a)(H:List AObj)(A N M D:Nat)(near:It)(d:Nat)(hA:H[A]? =some (.vars (Q3 a)))(hN:H[N]? =some (.vars [.mref M]))(hM:H[M]? =some (mpN near))(hD:H[D]? =some (.vars [.i d]))(hd:1≤d∧d≤1000000)(zd:NK near)(p q:Int)(hp:inS a p)(hq:inS a q):
  FC Tryz.prog 147 [.i p,.i q,.vptr A 0,.vptr N 0,.vptr D 0] H (fun r H'=>r= .bool (Xq near ((d:Int) - 1) (Wi a a (p,q)))∧∀i,i<H.length→H'[i]? =H[i]?):=by
 refine Wy tOk Tryz.func147 rfl Tryz.results147 rfl (by simp[Tryz.ntmps147]) ?_;rw[Tryz.ntmps147];simp only[Qg];have zb:=hA;simp only[Q3]at zb;have zn:=Qf hA;have ze:=Qf hN;have zf:=Qf hM;have zg:=Qf hD;have zh:∀L,(H++L)[A]? =some (.vars [.i a.types,.list (a.fin.map .bool),.list (a.mv.map encMv),.list (Ra a)]):=fun L=>Qa zb L;repeat first|(refine r_ ?_;simp[zh])|refine q_ ?_
 refine Qe rfl rfl (by simp) (M1 a a p q) rfl ?_;rintro _ rfl;simp;repeat first|(refine r_ ?_;simp)|refine q_ ?_
 refine Ed rfl (Rf:=fun _ H'=>(Xq near ((d:Int) - 1) (Wi a a (p,q))=false∧(∃sl' z1 a' b',H'[H.length+1]? =some (.lp true none 34 sl' z1 a' b'))∧H'[H.length]? =some (.vars [.bool false])∧∀i,i<H.length→H'[i]? =H[i]?)∨
  (Xq near ((d:Int) - 1) (Wi a a (p,q))=true∧(∃sl' z1 a' b',H'[H.length+1]? =some (.lp false (some .ret) 34 sl' z1 a' b'))∧H'[H.length]? =some (.vars [.bool true])∧∀i,i<H.length→H'[i]? =H[i]?)) ?_ ?_
 ·simp;refine Du fun H1 z6=> ?_;have f0:H1[H.length]? =some (.vars [.bool false]):=by rw[z6,zK (by omega)];simp
  have fk:∀i,i<H.length→H1[i]? =H[i]? :=fun i hi=>by rw[z6,zF hi]
  have fl:=congrArg (fun h:List AObj=>h[H.length+1]?) z6;have zo:H1.length=H.length+2:=by rw[z6];simp
  simp at fl;clear z6;refine FC.mono (C0 a a ha ha rfl p q hp hq (H.length+1) (by rfl) (by rfl)
   (fun pre H'=>Xq near ((d:Int) - 1) pre=false∧H'[H.length+1]? =H1[H.length+1]? ∧H'[H.length]? =some (.vars [.bool false])∧∀i,i<H.length→H'[i]? =H[i]?)
   (fun c H'=>c= .ret∧Xq near ((d:Int) - 1) (Wi a a (p,q))=true∧(∃sl' z1 a' b',H'[H.length+1]? =some (.lp false (some .ret) 34 sl' z1 a' b'))∧H'[H.length]? =some (.vars [.bool true])∧∀i,i<H.length→H'[i]? =H[i]?) H1
   (fun k H' ⟨_,h2,_,_⟩=>h2.trans fl) ?_ ?_ ⟨q1g _ _,rfl,f0,fk⟩) ?_
  ·rintro k H' L ⟨h1,h2,h3,h4⟩;exact⟨h1,by rw[←h2,zF (by rw[fl]at h2;exact Qf h2)],Qa h3 _,fun i hi=>by rw[zF (by have:=Qf h3;omega)];exact h4 i hi⟩
  ·rintro pre e post H' zc ⟨h1,h2,h3,h4⟩ hlen;simp[Rk];have zi:=Zj ha ha (show e∈Wi a a (p,q) by rw[zc];simp);have zj:=P9 ha ha zi;have zp:=Qf (h2.trans fl);have z7:=d0l near ((d:Int) - 1) pre e;have z8:=fun h=>g03 (near:=near) (d:=(d:Int) - 1) (pre:=pre) (post:=post) (e:=e) h;rw[←zc]at z8;rw[h1,Bool.false_or]at z7;have zz:=Qh (h2.trans fl) .dead;have z0:(H'.set (H.length+1) .dead)[H.length]? =some (.vars [.bool false]):=Qd (by omega) h3 _;have zk:∀i,i<H.length→(H'.set (H.length+1) .dead)[i]? =H[i]? :=fun i hi=>by rw[zE (by omega)];exact h4 i hi
   have zv:∀i cs,H1.length≤i→H'[i]? =some (.vars cs)→(H'.set (H.length+1) .dead)[i]? =some (.vars cs):=fun i cs hi hc=>by rw[zE (by omega)];exact hc
   have zl:(H'.set (H.length+1) .dead).length=H'.length:=by simp
   rw[←zl];generalize H'.set (H.length+1) .dead=Z at *
   have zN:=(zk N ze).trans hN;have zM:=(zk M zf).trans hM;have zD:=(zk D zg).trans hD;have zNA:∀L,(Z++L)[N]? =some (.vars [.mref M]):=fun L=>Qa zN L;have zMA:∀L,(Z++L)[M]? =some (mpN near):=fun L=>Qa zM L;have zDA:∀L,(Z++L)[D]? =some (.vars [.i d]):=fun L=>Qa zD L;have z0A:∀L,(Z++L)[H.length]? =some (.vars [.bool false]):=fun L=>Qa z0 L;have z0H:∀L hh,(Z++L)[H.length]'hh= .vars [.bool false]:=fun L hh=>(yP hh).2 (z0A L);have zm:IntKind.i64.wrap ((d:Int) - 1)=d - 1:=wrap_i64 _ (by omega) (by omega);simp only[k1c];repeat first|(refine r_ ?_;simp[zNA,zDA])|refine q_ ?_
   refine Tb rfl rfl rfl rfl (s:=e.2) rfl (near:=near) (zMA _) zd zj ?_;simp;generalize lkN near e.2=lk at *
   cases lk with
   |none=>
    simp at z7;repeat first|(refine r_ ?_;simp[zDA])|refine q_ ?_
    refine Qb rfl (fun h=>by simp at h) (fun _=> ?_);repeat first|(refine r_ ?_;simp)|refine q_ ?_
    refine⟨Qa zz _,.inl ⟨rfl,⟨z7,?_,?_,fun i hi=> ?_⟩,fun i cs hi hc=> ?_⟩⟩
    ·rw[fl];exact Qh (Qa zz _) _
    ·exact z0A _
    ·rw[zE (by omega),zF (by omega)];exact zk i hi
    ·exact Qd (j:=H.length+1) (by omega) (Qa (zv i cs hi hc) _) _
   |some kd=>
    simp at z7 z8;repeat first|(refine r_ ?_;simp[zDA,zm])|refine q_ ?_
    refine Qb rfl (fun h=> ?_) (fun h=> ?_)
    ·have za:(kd:Int)=d - 1:=by simpa using h
     repeat first|(refine r_ ?_;simp[z0A,z0H])|refine q_ ?_
     refine⟨Qd (j:=H.length) (by omega) (Qa zz _) _,.inr ⟨.ret,rfl,rfl,z8 za,?_,?_,fun i hi=> ?_⟩⟩
     ·exact⟨_,_,_,_,Qh (Qd (j:=H.length) (by omega) (Qa zz _) _) _⟩
     ·exact Qh (z0A _) _
     ·rw[zE (by omega),zE (by omega),zF (by omega)];exact zk i hi
    ·have za:¬(kd:Int)=d - 1:=by simpa using h
     repeat first|(refine r_ ?_;simp)|refine q_ ?_
     refine⟨Qa zz _,.inl ⟨rfl,⟨by rw[z7,decide_eq_false za],?_,?_,fun i hi=> ?_⟩,fun i cs hi hc=> ?_⟩⟩
     ·rw[fl];exact Qh (Qa zz _) _
     ·exact z0A _
     ·rw[zE (by omega),zF (by omega)];exact zk i hi
     ·exact Qd (j:=H.length+1) (by omega) (Qa (zv i cs hi hc) _) _
  ·rintro _ H' (⟨h1,h2,h3,h4⟩|⟨c,rfl,h1,h2,h3,h4⟩)
   ·exact .inl ⟨h1,⟨_,_,_,_,h2.trans fl⟩,h3,h4⟩
   ·exact .inr ⟨h1,h2,h3,h4⟩
 ·rintro _ H' (⟨h1,⟨sl',z1,a',b',h2⟩,h3,h4⟩|⟨h1,⟨sl',z1,a',b',h2⟩,h3,h4⟩)
  ·refine⟨true,none,34,sl',z1,a',b',by simpa using h2,?_⟩;simp;have z0:=Qd (j:=H.length+1) (by omega) h3 .dead;have z0H:∀hh,(H'.set (H.length+1) .dead)[H.length]'hh= .vars [.bool false]:=fun hh=>(yP hh).2 z0;rw[h1];have zk:∀i,i<H.length→(H'.set (H.length+1) .dead)[i]? =H[i]? :=fun i hi=>by rw[zE (by omega)];exact h4 i hi
   generalize H'.set (H.length+1) .dead=Z at *
   repeat first|(refine r_ ?_;simp[z0,z0H,Qh z0])|refine q_ ?_
   exact fun i hi=>by rw[zE (by omega)];exact zk i hi
  ·refine⟨false,some .ret,34,sl',z1,a',b',by simpa using h2,?_⟩;simp;have z0:=Qd (j:=H.length+1) (by omega) h3 .dead;rw[h1];have zk:∀i,i<H.length→(H'.set (H.length+1) .dead)[i]? =H[i]? :=fun i hi=>by rw[zE (by omega)];exact h4 i hi
   generalize H'.set (H.length+1) .dead=Z at *
   repeat first|(refine r_ ?_;simp[z0])|refine q_ ?_
   exact zk
end Go.Abs
namespace Go.Abs
open Go Go.Proofs Go.Maps Go.RowKit
theorem v15{G K:List AObj}(h:∀i,i<G.length→K[i]? =G[i]?):∃E,K=G++E:=by
 refine⟨K.drop G.length,?_⟩;have hl:G.length≤K.length:=by
  by_cases h0:G.length=0
  ·omega
  ·have:=h (G.length - 1) (by omega);have h2:G[G.length - 1]? =some (G[G.length - 1]'(by omega)):=zJ (by omega);rw[h2]at this;have:=Qf this;omega
 refine xT fun i=> ?_;by_cases hi:i<G.length
 ·rw[zF hi];exact h i hi
 ·rw[zK (by omega),List.getElem?_drop]
  congr 1;omega
def fdR(n:Nat)(g:Int×Int→Bool)(i:Nat):List (Int×Int):=((yL i).flatMap fun x:Nat=>(yL n).map fun y:Nat=>((x:Int),(y:Int))).filter g
def fdC(g:Int×Int→Bool)(i j:Nat):List (Int×Int):=((yL j).map fun y:Nat=>((i:Int),(y:Int))).filter g
theorem q0f(n:Nat)(g:Int×Int→Bool):fdR n g 0=[]:=by simp[fdR]
theorem w0k(g:Int×Int→Bool)(i:Nat):fdC g i 0=[]:=by simp[fdC]
theorem c0q(n:Nat)(g:Int×Int→Bool)(i:Nat):fdR n g (i+1)=fdR n g i++fdC g i n:=by unfold fdR fdC;rw[wH,wA,vY];simp
theorem w1y(g:Int×Int→Bool)(i j:Nat):fdC g i (j+1)=fdC g i j++(if g ((i:Int),(j:Int))=true then [((i:Int),(j:Int))]else []):=by
 unfold fdC;rw[wH,yZ,vY]
 congr 1
 rw[List.map_cons,List.map_nil,uF,tE]
theorem g1p(a:Aut)(g:Int×Int→Bool):fdR a.fin.length g a.fin.length=(Pk a a).filter g:=by
 unfold fdR Pk W6
 congr 1
 rw[List.flatMap_map];simp[vB,Function.comp_def]
theorem V4(n:Nat):∀i:Nat,((yL i).map fun _:Nat=>n).sum=i * n
 |0=>by simp
 |i+1=>by rw[wH,yZ,List.sum_append,V4 n i];simp[Nat.succ_mul]
theorem g1g(n:Nat)(g:Int×Int→Bool)(i j:Nat)(hi:i≤n)(hj:j≤n):(fdR n g i++fdC g i j).length≤n * n+n:=by
 rw[z_];have h1:(fdR n g i).length≤i * n:=by
  unfold fdR;refine yO (xR _ _) ?_;rw[List.length_flatMap];have:((yL i).map fun x:Nat=>((yL n).map fun y:Nat=>((x:Int),(y:Int))).length).sum=i * n:=by simpa using V4 n i
  omega
 have h2:(fdC g i j).length≤j:=by unfold fdC;refine yO (xR _ _) ?_;simp
 have:=Nat.mul_le_mul_right n hi;omega
def Dz(a:Aut)(near:It)(pf:Int×Int→Bool)(s:Int×Int):Bool:=(lkN near s).isNone && pf s
def Xm(a:Aut)(near:It)(pf:Int×Int→Bool):List (Int×Int):=(Pk a a).filter (Dz a near pf)
theorem Zk{a:Aut}{near:It}{pf:Int×Int→Bool}{s:Int×Int}(h:s∈Xm a near pf):inP a s∧s∉near.map (·.1):=by obtain⟨h1,h2⟩:=List.mem_filter.1 h;refine⟨f0w h1,D8.1 ?_⟩;unfold Dz at h2;simp only[Bool.and_eq_true,Option.isNone_iff_eq_none]at h2;exact h2.1
theorem j0d(a:Aut)(near:It)(pf:Int×Int→Bool):(Xm a near pf).Nodup:=(Kq a).filter _
theorem NK.round{a:Aut}(ha:OkA a){near:It}(h:NK near)(pf:Int×Int→Bool)(d:Nat){l r:List (Int×Int)}(he:Xm a near pf=l++r):NK (near++l.map fun s=>(s,d)):=by
 have hl:∀s∈l,s∈Xm a near pf:=fun s hs=>by rw[he];simp[hs]
 refine⟨?_,fun e hm=> ?_⟩
 ·rw[yZ,vG];refine⟨h.nd,?_,fun x hx y hy e=> ?_⟩
  ·have:=j0d a near pf;rw[he,vG]at this;simpa[Function.comp_def]using this.1
  ·simp only[vB,Function.comp_def,tV]at hy;subst e;exact(Zk (hl _ hy)).2 hx
 ·rcases zU.1 hm with hm|hm
  ·exact h.ok e hm
  ·obtain⟨s,hs,rfl⟩:=zT.1 hm;exact P9 ha ha (Zk (hl s hs)).1
attribute [local irreducible] lkN Dz fdR fdC
theorem q0a (a:Aut) (ha:OkA a) (H:List AObj) (nC N M:Nat) (near:It) (d:Nat) (pf:Int×Int→Bool) (f:FuncId) (cs:List AV) (hn:H[nC]? =some (.vars [.i a.fin.length])) (hN:H[N]? =some (.vars [.mref M])) (hM:H[M]? =some (mpN near)) (zv:NK near)
  (zf:∀(p q:Int) (H':List AObj),inS a p→inS a q→(∀i,i<H.length→H'[i]? =H[i]?)→FC Tryz.prog f ([]++[.i p,.i q]++cs) H' (fun r K=>r= .bool (pf (p,q))∧∀i,i<H'.length→K[i]? =H'[i]?)):
  FC Tryz.prog 145 [.i d,.fn (.func f) [] cs,.vptr nC 0,.vptr N 0] H (fun r H'=>r= .bool (decide (0<(Xm a near pf).length))∧H'[M]? =some (mpN (near++(Xm a near pf).map fun s=>(s,d)))∧∀i,i<H.length→i≠M→H'[i]? =H[i]?):=by
 refine Wy tOk Tryz.func145 rfl Tryz.results145 rfl (by simp[Tryz.ntmps145]) ?_;rw[Tryz.ntmps145];simp only[Qg];have za:=ha.fin;have ym:=Qf hn;have y7:=Qf hN;have y8:=Qf hM;have y9:=g1p a (Dz a near pf);have ya:=g1g a.fin.length (Dz a near pf);have yb:a.fin.length * a.fin.length≤65536:=yO (td za.2 za.2) (by decide);repeat first|(refine r_ ?_;simp[hn])|refine q_ ?_
 refine Wt 7 135 2 rfl ?_;simp;have yc:=SL.start H 135 2;refine Qo (Qc (sl':=[(0,.i d),(1,.fn (.func f) [] cs),(2,.vptr nC 0),(3,.vptr N 0),(6,.bool false),(7,.sl H.length 2 0 (fdR a.fin.length (Dz a near pf) 0).length),(14,.i a.fin.length),(15,.i (0:Nat))]) ?_ (by simp[q0f]));refine Qn (F:=fun(u:Nat×Nat×List AObj)=>⟨[(0,.i d),(1,.fn (.func f) [] cs),(2,.vptr nC 0),(3,.vptr N 0),(6,.bool false),(7,.sl u.2.1 2 0 (fdR a.fin.length (Dz a near pf) u.1).length),(14,.i a.fin.length),(15,.i u.1)],u.2.2⟩)
  (fun u=>u.1≤a.fin.length∧SL H u.2.2 u.2.1 135 2 ((fdR a.fin.length (Dz a near pf) u.1).map kyP)) (fun u=>a.fin.length - u.1) ?_ (0,H.length,_) ⟨xY _,by rw[q0f];exact yc⟩
 rintro⟨i,q,G⟩ ⟨hi,hs⟩ ih;simp only at hi hs ih ⊢;repeat first|(refine r_ ?_;simp)|refine q_ ?_
 refine Qb rfl (fun yd=> ?_) (fun ye=> ?_)
 ·have yf:i<a.fin.length:=by simpa using yd
  have hw:IntKind.i64.wrap ((i:Int)+1)=i+1:=wrap_i64 _ (by omega) (by omega);have zw:=fun q' G'=>ih (i+1,q',G');simp only[c0q]at zw;have gn:=hs.kp hn;repeat first|(refine r_ ?_;simp[gn])|refine q_ ?_
  refine Qo (Qc (sl':=[(0,.i d),(1,.fn (.func f) [] cs),(2,.vptr nC 0),(3,.vptr N 0),(6,.bool false),(7,.sl q 2 0 (fdR a.fin.length (Dz a near pf) i++fdC (Dz a near pf) i 0).length),(8,.i i),(14,.i a.fin.length),(15,.i i),(18,.i a.fin.length),(19,.i (0:Nat))]) ?_ (by simp[w0k]));refine Qn (F:=fun(u:Nat×Nat×List AObj)=>⟨[(0,.i d),(1,.fn (.func f) [] cs),(2,.vptr nC 0),(3,.vptr N 0),(6,.bool false),(7,.sl u.2.1 2 0 (fdR a.fin.length (Dz a near pf) i++fdC (Dz a near pf) i u.1).length),(8,.i i),(14,.i a.fin.length),(15,.i i),(18,.i a.fin.length),(19,.i u.1)],u.2.2⟩)
   (fun u=>u.1≤a.fin.length∧SL H u.2.2 u.2.1 135 2 ((fdR a.fin.length (Dz a near pf) i++fdC (Dz a near pf) i u.1).map kyP)) (fun u=>a.fin.length - u.1) ?_ (0,q,G) ⟨xY _,by rw[w0k,xK];exact hs⟩
  clear hs gn;clear G q;rintro⟨j,q,G⟩ ⟨hj,hs⟩ ih2;simp only at hj hs ih2 ⊢;repeat first|(refine r_ ?_;simp)|refine q_ ?_
  refine Qb rfl (fun zg=> ?_) (fun zh=> ?_)
  ·have zx:j<a.fin.length:=by simpa using zg
   have zi:IntKind.i64.wrap ((j:Int)+1)=j+1:=wrap_i64 _ (by omega) (by omega);have z1:=fun q' G'=>ih2 (j+1,q',G');simp only[w1y]at z1;have gN:=hs.kp hN;have gM:=hs.kp hM;have zy:inS a (i:Int):=⟨by omega,by omega⟩
   have zz:inS a (j:Int):=⟨by omega,by omega⟩
   have zj:okK ((i:Int),(j:Int)):=P9 ha ha ⟨zy,zz⟩;have yn:=ya i j hi hj;have yg:=hs.le;have zk:∀x,x<H.length→G[x]? =H[x]? :=fun x hx=>by have h1:H[x]? =some H[x]:=zJ hx;rw[h1];exact hs.kp h1
   have z7:Dz a near pf ((i:Int),(j:Int))=((lkN near ((i:Int),(j:Int))).isNone && pf ((i:Int),(j:Int))):=by unfold Dz;rfl
   repeat first|(refine r_ ?_;simp[gN])|refine q_ ?_
   refine Tb rfl rfl rfl rfl (s:=((i:Int),(j:Int))) rfl (near:=near) gM zv zj ?_;simp;generalize hL:fdR a.fin.length (Dz a near pf) i++fdC (Dz a near pf) i j=L at *;simp only[←xP,hL]at z1
   have zb:(fdR a.fin.length (Dz a near pf) i).length+(fdC (Dz a near pf) i j).length=L.length:=by rw[←hL,z_]
   cases hlk:lkN near ((i:Int),(j:Int))with
   |some kd=>
    rw[hlk]at z7;simp at z7;simp only[z7,uy,if_false,xK]at z1;repeat first|(refine r_ ?_;simp)|refine q_ ?_
    refine We rfl rfl ?_;simp;refine Qj rfl ?_;repeat first|(refine r_ ?_;simp[zi])|refine q_ ?_
    refine Qc (sl':=[(0,.i d),(1,.fn (.func f) [] cs),(2,.vptr nC 0),(3,.vptr N 0),(6,.bool false),(7,.sl q 2 0 L.length),(8,.i i),(14,.i a.fin.length),(15,.i i),(18,.i a.fin.length),(19,.i (j+1:Nat))]) ?_ (by simp[zb]);exact z1 q G ⟨by omega,hs⟩ (by omega)
   |none=>
    rw[hlk]at z7;simp at z7;repeat first|(refine r_ ?_;simp)|refine q_ ?_
    refine Q4 rfl rfl (zf i j G zy zz zk) rfl ?_;rintro _ K ⟨rfl,hK⟩;obtain⟨E,rfl⟩:=v15 hK;have z8:=hs.add E;generalize G++E=G2 at *
    simp;cases hpf:pf ((i:Int),(j:Int))with
    |true=>
     rw[hpf]at z7;simp only[z7,if_true]at z1;have y0:(L.map kyP).length=L.length:=by simp
     generalize zl:L.map kyP=acc at *;refine Qj rfl ?_
     repeat first|(refine r_ ?_;simp)|refine q_ ?_
     refine Qi tOk rfl rfl z2n rfl z2r rfl (by decide) (by decide) rfl rfl rfl ?_;simp[Qa z8.arr,Ql z8.arr,y0,zb];refine⟨by simp[W8,Qa z8.arr,Ql z8.arr,y0,zb]<;>omega,?_⟩;repeat first|(refine r_ ?_;simp[zi])|refine q_ ?_
     refine Qc (sl':=[(0,.i d),(1,.fn (.func f) [] cs),(2,.vptr nC 0),(3,.vptr N 0),(6,.bool false),(7,.sl (G2.length+1) 2 0 (L++[((i:Int),(j:Int))]).length),(8,.i i),(14,.i a.fin.length),(15,.i i),(18,.i a.fin.length),(19,.i (j+1:Nat))]) ?_ (by simp[zb]);refine z1 (G2.length+1) _ ⟨by omega,?_⟩ (by omega);have:=z8.put [AObj.arr 135 2 [kyP ((i:Int),(j:Int))]] (acc++[kyP ((i:Int),(j:Int))]) rfl;rw[show(L++[((i:Int),(j:Int))]).map kyP=acc++[kyP ((i:Int),(j:Int))] by rw[←zl];simp];exact this
    |false=>
     rw[hpf]at z7;simp only[z7,uy,if_false,xK]at z1;refine Qj rfl ?_;repeat first|(refine r_ ?_;simp[zi])|refine q_ ?_
     refine Qc (sl':=[(0,.i d),(1,.fn (.func f) [] cs),(2,.vptr nC 0),(3,.vptr N 0),(6,.bool false),(7,.sl q 2 0 L.length),(8,.i i),(14,.i a.fin.length),(15,.i i),(18,.i a.fin.length),(19,.i (j+1:Nat))]) ?_ (by simp[zb]);exact z1 q G2 ⟨by omega,z8⟩ (by omega)
  ·have zc:j=a.fin.length:=by simp at zh;omega
   subst zc;repeat first|(refine r_ ?_;simp[hw])|refine q_ ?_
   refine Qc (sl':=[(0,.i d),(1,.fn (.func f) [] cs),(2,.vptr nC 0),(3,.vptr N 0),(6,.bool false),(7,.sl q 2 0 (fdR a.fin.length (Dz a near pf) i++fdC (Dz a near pf) i a.fin.length).length),(14,.i a.fin.length),(15,.i (i+1:Nat))]) ?_ (by simp);exact zw q G ⟨by omega,hs⟩ (by omega)
 ·have zm:i=a.fin.length:=by simp at ye;omega
  subst zm;rw[y9]at hs ⊢;have yh:(Pk a a).filter (Dz a near pf)=Xm a near pf:=rfl;rw[yh]at hs ⊢;have yo:(Xm a near pf).length≤65536:=by refine yO (xR _ _) ?_;rw[P3];exact yb
  have y1:=fun l r h=>zv.round ha pf d (l:=l) (r:=r) h;have y2:=fun s h=>Zk (a:=a) (near:=near) (pf:=pf) (s:=s) h;have zn:=j0d a near pf;generalize Xm a near pf=L at *
  have zk:∀x,x<H.length→G[x]? =H[x]? :=fun x hx=>by have h1:H[x]? =some H[x]:=zJ hx;rw[h1];exact hs.kp h1
  have yg:=hs.le;have yp:H.length≤q:=hs.ge;refine Q6 (sl':=[(0,.i d),(3,.vptr N 0),(6,.bool false),(7,.sl q 2 0 L.length)]) ?_ (by simp);refine Ws q hs.arr ?_;simp[AV.fz];rw[zY (by simp)];have yk:∀x,x<H.length→(G.set q .dead)[x]? =H[x]? :=fun x hx=>by rw[zE (by omega)];exact zk x hx
  generalize G.set q .dead=Y at *
  repeat first|(refine r_ ?_;simp)|refine q_ ?_
  refine Qo (Qc (sl':=[(0,.i d),(3,.vptr N 0),(6,.bool false),(7,.list (L.map kyP)),(46,.list (L.map kyP)),(47,.i L.length),(48,.i (0:Nat))]) ?_ (by simp));refine Qn (F:=fun(u:Nat×List AObj)=>⟨[(0,.i d),(3,.vptr N 0),(6,.bool false),(7,.list (L.map kyP)),(46,.list (L.map kyP)),(47,.i L.length),(48,.i u.1)],u.2⟩)
   (fun u=>u.1≤L.length∧u.2[M]? =some (mpN (near++(L.take u.1).map fun s=>(s,d)))∧∀i,i<H.length→i≠M→u.2[i]? =H[i]?) (fun u=>L.length - u.1) ?_ (0,Y) ⟨xY _,by simpa using(yk M y8).trans hM,fun i hi _=>yk i hi⟩
  clear yk;clear Y;rintro⟨k,Y⟩ ⟨hk,yM,yk⟩ ih3;simp only at hk yM yk ih3 ⊢;repeat first|(refine r_ ?_;simp)|refine q_ ?_
  refine Qb rfl (fun zo=> ?_) (fun zp=> ?_)
  ·have z6:k<L.length:=by simpa using zo
   have yi:IntKind.i64.wrap ((k:Int)+1)=k+1:=wrap_i64 _ (by omega) (by omega);have yj:N≠M:=fun e=>by rw[e,hM]at hN;simp[mpN]at hN
   have y3:(L.map kyP)[k]? =some (kyP L[k]):=by simp[z6]
   have y4:∀hh,(L.map kyP)[k]'hh=kyP L[k]:=fun hh=>by simp
   have zq:L.take k++L[k]::L.drop (k+1)=L:=by rw[←List.drop_eq_getElem_cons z6,xW]
   have zr:=y1 (L.take k) (L[k]::L.drop (k+1)) zq.symm;have y5:=y2 L[k] (zL z6);have zj:=P9 ha ha y5.1;have zt:L[k]∉(near++(L.take k).map fun s=>(s,d)).map (·.1):=by rw[yZ,zU,not_or];refine⟨y5.2,fun h=> ?_⟩;simp only[vB,Function.comp_def,tV]at h;rw[←zq,vG]at zn;exact zn.2.2 _ h _ List.mem_cons_self rfl
   have y6:(L.take (k+1)).map (fun s=>(s,d))=(L.take k).map (fun s=>(s,d))++[(L[k],d)]:=by rw[zV z6,yZ];rfl
   have zd:=fun G'=>ih3 (k+1,G');simp only[y6,←xP]at zd;generalize L[k]=s at *;clear zq y6 zn y2 y1;generalize near++(L.take k).map (fun s=>(s,d))=nr at *
   have yN:=(yk N y7 yj).trans hN;have yNA:∀E,(Y++E)[N]? =some (.vars [.mref M]):=fun E=>Qa yN E;simp only[kyP]at y3 y4;repeat first|(refine r_ ?_;simp[y3,y4,z6,yNA])|refine q_ ?_
   refine x0z rfl rfl rfl rfl (s:=s) rfl (d:=d) rfl (near:=nr) (Qa yM _) zr zj zt ?_;simp;repeat first|(refine r_ ?_;simp[yi])|refine q_ ?_
   refine Qc (sl':=[(0,.i d),(3,.vptr N 0),(6,.bool false),(7,.list (L.map kyP)),(46,.list (L.map kyP)),(47,.i L.length),(48,.i (k+1:Nat))]) ?_ (by simp);refine zd _ ⟨by omega,Qh (Qa yM _) _,fun i hi zu=> ?_⟩ (by omega);have yl:i<Y.length:=Qf ((yk i hi zu).trans (zJ hi));rw[zE (Ne.symm zu),zF yl];exact yk i hi zu
  ·have ze:k=L.length:=by simp at zp;omega
   subst ze;rw[y_]at yM;repeat first|(refine r_ ?_;simp)|refine q_ ?_
   exact⟨yM,yk⟩
end Go.Abs
namespace Go.Abs
open Go Go.Proofs Go.Maps Go.RowKit
section
variable {P:Program} [Env P] {nt k:Nat} {S:AS} {ops:Array Oper} {o:Oper} {R:AS→Prop}
theorem V5{wr:Bool}(hw:Q1 ops S o=some true)(hd:Ww nt o=true)(ho:o.op= .assign (.const (.map none)))(hR:R (S.putD o.dst .top)):Wl P nt k wr ops o S R:=
 d0p hw hd (fun W0 I0 w I m a z1 z6=>⟨.map none,by simp[execOp,ho,Act.eval],.pure (.top _)⟩) hR
end
theorem x0d(a:Aut)(near:It):Tl a near 0=Xm a near (Tu a a):=by unfold Tl Xm;refine tt fun s _=> ?_;unfold Dz Hu;cases lkN near s<;>simp
theorem x06(a:Aut)(near:It)(d:Nat):Tl a near (d+1)=Xm a near (fun s=>Xq near (d:Int) (Wi a a s)):=by
 unfold Tl Xm;refine tt fun s _=> ?_;unfold Dz Hu Xq
 congr 1
 ·cases lkN near s<;>simp
 ·show(Wi a a s).any _=(Wi a a s).any _
  congr 1
  funext e;cases lkN near e.2 with
  |none=>simp
  |some k=>simp;omega
structure NB (a:Aut) (near:It):Prop where
 nk:NK near
 inn:∀e∈near,inP a e.1
 bd:∀e∈near,e.2≤1000000
theorem NB.len{a:Aut}{near:It}(h:NB a near):near.length≤a.fin.length * a.fin.length:=by
 have e:near.length=(near.map (·.1)).length:=by rw[List.length_map]
 rw[←P3,e];refine Ib _ _ h.nk.nd fun x hx=> ?_;obtain⟨e,he,rfl⟩:=zT.1 hx;exact Hw (h.inn e he).1 (h.inn e he).2
theorem NB.add{a:Aut}(ha:OkA a){near:It}(h:NB a near)(pf:Int×Int→Bool)(d:Nat)(hd:d≤1000000):NB a (near++(Xm a near pf).map fun s=>(s,d)):=by
 refine⟨h.nk.round ha pf d (l:=Xm a near pf) (r:=[]) (by simp),fun e he=> ?_,fun e he=> ?_⟩;rcases zU.1 he with he|he
 ·exact h.inn e he
 ·obtain⟨s,hs,rfl⟩:=zT.1 he;exact(Zk hs).1
 ·rcases zU.1 he with he|he
  ·exact h.bd e he
  ·obtain⟨s,hs,rfl⟩:=zT.1 he;exact hd
theorem x1i(a:Aut):NB a []:=⟨⟨by simp,by simp⟩,by simp,by simp⟩
theorem x0x(a:Aut)(f d:Nat)(near:It):Jg a (f+1) d near=if Tl a near d=[]then near else Jg a f (d+1) (near++(Tl a near d).map fun s=>(s,d)):=by rw[Jg]
theorem d0v(a:Aut):En a=Jg a (a.fin.length * a.fin.length+1) 1 ((Tl a [] 0).map fun s=>(s,0)):=rfl
attribute [local irreducible] Qw Eh Ra Wi Tu lkN Xq Xm Jg En
theorem U7(a:Aut)(ha:OkA a)(H:List AObj):FC Tryz.prog 89 [Ei a] H (fun r H'=>∃M,r= .mref M∧H.length≤M∧H'[M]? =some (mpN (En a))∧NB a (En a)∧∀i,i<H.length→H'[i]? =H[i]?):=by
 refine Wy tOk Tryz.func89 rfl Tryz.results89 rfl (by simp[Tryz.ntmps89]) ?_;rw[Tryz.ntmps89];simp only[Qg];simp only[Ei,Q3];have z6:=ha.fin;repeat first|(refine r_ ?_;simp)|refine q_ ?_
 refine V5 rfl rfl rfl ?_;simp;repeat first|(refine r_ ?_;simp)|refine q_ ?_
 refine Ec rfl rfl rfl ?_;simp;repeat first|(refine r_ ?_;simp)|refine q_ ?_
 refine Ga fun Z hZ=> ?_;have zA:Z[H.length]? =some (.vars (Q3 a)):=by rw[hZ,zK (by omega)];simp[Q3]
 have zM:Z[H.length+1]? =some (mpN []):=by rw[hZ,zK (by omega)];simp[mpN,kvN]
 have zN:Z[H.length+2]? =some (.vars [.mref (H.length+1)]):=by rw[hZ,zK (by omega)];simp
 have zC:Z[H.length+3]? =some (.vars [.i a.fin.length]):=by rw[hZ,zK (by omega)];simp
 have zk:∀i,i<H.length→Z[i]? =H[i]? :=fun i hi=>by rw[hZ,zF hi]
 clear hZ;refine Q4 rfl rfl (q0a a ha Z (H.length+3) (H.length+2) (H.length+1) [] 0 (Tu a a) 146 [.vptr H.length 0] zC zN zM (x1i a).nk (fun p q H' hp hq hk=>FC.mono (q1b a ha H' H.length ((hk _ (Qf zA)).trans zA) p q hp hq) (fun r K ⟨h1,h2⟩=>⟨h1,fun i _=>by rw[h2]⟩))) rfl ?_;rintro _ Y ⟨rfl,yM,yk⟩;simp;have yA:=(yk _ (Qf zA) (by omega)).trans zA;have yN:=(yk _ (Qf zN) (by omega)).trans zN;have yC:=(yk _ (Qf zC) (by omega)).trans zC;have zc:=Qf zC;have z7:∀i,i<H.length→Y[i]? =H[i]? :=fun i hi=>(yk i (by omega) (by omega)).trans (zk i hi);clear zA zM zN zC zk yk zc;clear Z;have z8:=d0v a;rw[x0d]at z8;have za:=(x1i a).add ha (Tu a a) 0 (by omega);rw[List.nil_append]at yM za;generalize zd:(Xm a [] (Tu a a)).map (fun s=>(s,0))=near1 at *
 obtain⟨R,hR⟩:∃R,En a=R:=⟨_,rfl⟩
 rw[hR]at z8 ⊢;have zb:=Qf yC;repeat first|(refine r_ ?_;simp)|refine q_ ?_
 refine Qo (Qc (sl':=[(1,.vptr H.length 0),(2,.top),(3,.vptr (H.length+2) 0),(4,.vptr (H.length+3) 0),(5,.fn (.func 145) [] [.vptr (H.length+3) 0,.vptr (H.length+2) 0]),(6,.vptr Y.length 0)]) ?_ (by simp));refine Qn (P:=Tryz.prog) (F:=fun(u:Nat×Nat×It×Nat×List AObj)=>⟨[(1,.vptr H.length 0),(2,.top),(3,.vptr (H.length+2) 0),(4,.vptr (H.length+3) 0),(5,.fn (.func 145) [] [.vptr (H.length+3) 0,.vptr (H.length+2) 0]),(6,.vptr u.1 0)],u.2.2.2.2⟩)
  (fun u=>NB a u.2.2.1∧1≤u.2.1∧u.2.1≤u.2.2.1.length+1∧a.fin.length * a.fin.length+1≤u.2.2.1.length+u.2.2.2.1∧R=Jg a u.2.2.2.1 u.2.1 u.2.2.1∧u.2.2.2.2[H.length]? =some (.vars (Q3 a))∧u.2.2.2.2[H.length+1]? =some (mpN u.2.2.1)∧u.2.2.2.2[H.length+2]? =some (.vars [.mref (H.length+1)])∧u.2.2.2.2[H.length+3]? =some (.vars [.i a.fin.length])∧u.2.2.2.2[u.1]? =some (.vars [.i u.2.1])∧∀i,i<H.length→u.2.2.2.2[i]? =H[i]?)
  (fun u=>u.2.2.2.1) ?_ (Y.length,1,near1,a.fin.length * a.fin.length+1,Y++[.vars [.i 1]]) ⟨za,zR _,by simp,by simp,z8,Qa yA _,Qa yM _,Qa yN _,Qa yC _,by simp,fun i hi=>by rw[zF (by omega)];exact z7 i hi⟩
 clear z8 za zd yA yM yN yC z7 zb;clear Y;rintro⟨D,d,near,F,G⟩ ⟨hb,ze,zf,hF,z1,gA,gM,gN,gC,gD,gk⟩ ih;simp only at hb ze zf hF z1 gA gM gN gC gD gk ih ⊢;have zi:=hb.len;have zj:a.fin.length * a.fin.length≤65536:=yO (td z6.2 z6.2) (by decide);obtain⟨e,rfl⟩:∃e,d=e+1:=⟨d - 1,by omega⟩
 obtain⟨F,rfl⟩:∃f,F=f+1:=⟨F - 1,by omega⟩
 rw[x0x,x06]at z1;repeat first|(refine r_ ?_;simp[gD])|refine q_ ?_
 refine Q4 rfl rfl (q0a a ha G (H.length+3) (H.length+2) (H.length+1) near (e+1) (fun s=>Xq near (e:Int) (Wi a a s)) 147 [.vptr H.length 0,.vptr (H.length+2) 0,.vptr D 0] gC gN gM hb.nk (fun p q H' hp hq hk=>FC.mono (c03 a ha H' H.length (H.length+2) (H.length+1) D near (e+1) ((hk _ (Qf gA)).trans gA) ((hk _ (Qf gN)).trans gN) ((hk _ (Qf gM)).trans gM) ((hk _ (Qf gD)).trans gD) (by omega) hb.nk p q hp hq) (fun r K ⟨h1,h2⟩=>⟨by rw[h1];congr 2;omega,h2⟩))) rfl ?_;rintro _ Y ⟨rfl,yM,yk⟩;simp;have zg:D≠H.length+1:=fun e=>by rw[e,gM]at gD;simp[mpN]at gD
 have yD:=(yk _ (Qf gD) zg).trans gD;have yA:=(yk _ (Qf gA) (by omega)).trans gA;have yN:=(yk _ (Qf gN) (by omega)).trans gN;have yC:=(yk _ (Qf gC) (by omega)).trans gC;have zl:=Qf gC;have z7:∀i,i<H.length→Y[i]? =H[i]? :=fun i hi=>(yk i (by omega) (by omega)).trans (gk i hi);have zh:=hb.add ha (fun s=>Xq near (e:Int) (Wi a a s)) (e+1) (by omega);generalize Xm a near (fun s=>Xq near (e:Int) (Wi a a s))=L at *
 refine Qb rfl (fun h=> ?_) (fun h=> ?_)
 ·have hL:0<L.length:=by simpa using h
  rw[if_neg (fun k=>by rw[k]at hL;simp at hL)]at z1;have hw:IntKind.i64.wrap ((e:Int)+1+1)=e+1+1:=wrap_i64 _ (by omega) (by omega);repeat first|(refine r_ ?_;simp[yD,hw])|refine q_ ?_
  refine Qc (sl':=[(1,.vptr H.length 0),(2,.top),(3,.vptr (H.length+2) 0),(4,.vptr (H.length+3) 0),(5,.fn (.func 145) [] [.vptr (H.length+3) 0,.vptr (H.length+2) 0]),(6,.vptr Y.length 0)]) ?_ (by simp);have zb:=Qf yC;refine ih (Y.length,e+1+1,near++L.map (fun s=>(s,e+1)),F,_) ⟨zh,by simp only;omega,by simp;omega,by simp;omega,z1,?_,?_,?_,?_,?_,fun i hi=> ?_⟩ (by simp only;omega)
  ·exact Qa yA _
  ·exact Qa yM _
  ·exact Qa yN _
  ·exact Qa yC _
  ·simp
  ·simp only;rw[zF (by omega)];exact z7 i hi
 ·have hL:L=[]:=by
   cases L with
   |nil=>rfl
   |cons x l=>simp at h
  subst hL;rw[if_pos rfl]at z1;subst z1;repeat first|(refine r_ ?_;simp[yN])|refine q_ ?_
  refine⟨by simpa using yM,hb,z7⟩
end Go.Abs
namespace Go.Abs
open Go Go.Proofs Go.Maps
end Go.Abs
namespace Go.Abs
open Go Go.Proofs Go.Maps Go.RowKit
theorem f1i(p q:Prd):Cm (Qm p) (Qm q)=Vd (Qx p 0) (Qx q 0):=by
 have h1:decide (((Qx p 0).1:Int)<(Qx q 0).1)=decide ((Qx p 0).1<(Qx q 0).1):=by rw[decide_eq_decide];omega
 have h2:decide (((Qx p 0).1:Int)=(Qx q 0).1)=decide ((Qx p 0).1=(Qx q 0).1):=by rw[decide_eq_decide];omega
 unfold Cm Vd Qm;simp only[h1,h2]
def z2e(p:Prd)(L:List Prd)(k:Nat):List Prd:=Ya p (L.take k)
def z2b(T:Nat)(l:List Prd)(i:Nat):List Prd:=Ux T (l.take i)
def q22(L:List Prd)(i:Nat):List Prd:=(L.take i).foldl k08 []
attribute [local irreducible] z2e z2b q22 Wu Eg R8 Wp c0i Ux Ya Qx
end Go.Abs
namespace Go.Abs
open Go Go.Proofs Go.Maps Go.RowKit
def z2s(p:Prd):Bool:=p.any fun s=>decide (256<s.length)
def y2d(p:Prd):Int×Prd:=if z2s p then(5,[])else(0,p)
attribute [local irreducible] Q9 Ey z2s
attribute [local irreducible] Yp y2d
end Go.Abs
namespace Go.Abs
open Go Go.Proofs Go.Maps Go.RowKit
attribute [local irreducible] Wa Qm y0y x1l Ta R0 y1g nxB Y1 Zq Wk
end Go.Abs
namespace Go.Abs
open Go Go.Proofs Go.Maps Go.RowKit
attribute [local irreducible] Oz Wa Qm Ji Uf Dv E2 stepG Fj Vw Zq y1g nxB Y1 w2u Wk
end Go.Abs
namespace Go.Abs
open Go Go.Proofs Go.Maps Go.RowKit
attribute [local irreducible] Ru Sm O3
end Go.Abs
namespace Go.Abs
open Go Go.Proofs Go.Maps Go.RowKit
attribute [local irreducible] Pu z0m Wk
attribute [local irreducible] E8
def toD(a:Aut)(s:Int)(x:Sy)(j:Nat):Int:=match (a.mv.drop j).find? (fun m=>decide (m.src=s) && E8 m.on x)with|some m=>m.dst|none=> -1
attribute [local irreducible] toD toL
end Go.Abs
namespace Go.Abs
open Go Go.Proofs Go.Maps Go.RowKit
attribute [local irreducible] Qm Q9
end Go.Abs
