/- Part Nh of the proof: an abstract machine over the model, and what the functions of the program hand back in its terms. No condition. -/
import Derived.Test.YteghceocnldccaaGreatDoorNg
import Derived.Test.YteghceocnldccaaGreatDoorNc
import Derived.Test.YteghceocnldccaaGreatDoorNf
import Derived.DeepKeys4
import Derived.Test.YteghceocnldccaaGreatDoorNd
import Derived.Test.YteghceocnldccaaGreatDoorNe
set_option linter.all false
open List renaming take_succ_eq_append_getElem→zY,filter_append→ui,filter_cons→ux,filter_nil→tT,length_filter_le→xX,length_take→wp,range→yV,getElem?_append_left→zI,ext_getElem?→xW,getElem?_set_self→zU,getElem?_set_ne→zH,getElem?_eq_none→xI,map_congr_left→xZ,map_map→v_,mem_range→xJ,take_of_length_le→zV,mem_map→zX,length_cons→yY,length_nil→tU,getElem_mem→zT,getElem?_append_right→zL,getElem_eq_iff→yJ,getElem?_eq_getElem→zP,take_length→xB,flatMap_append→ww,filterMap_append→tj,take_append_drop→xY,getElem?_map→yI,append_nil→xO,append_assoc→wd,range_succ→wQ,mem_of_getElem?→zO,map_append→yX,map_cons→xH,length_append→yL,nodup_append→vT,map_id'→se,mem_append→yH,drop_eq_getElem_cons→wR,filter_congr→tE,length_map→yO,foldl_append→vA,mem_of_mem_take→xV,length_drop→wn,map→wV,mem_of_mem_drop→vF,map_take→xS,map_drop→xT
open Nat renaming le_trans→yW,le_refl→zW,zero_le→wD,mul_le_mul_right→yK,mul_le_mul→sa
open Option renaming map_eq_some_iff→zZ
open Bool renaming false_eq_true→uI
set_option maxHeartbeats 16000000
set_option linter.unusedSimpArgs false
set_option maxRecDepth 100000
namespace Go.Abs
open Go Go.Proofs Go.Maps Go.RowKit
attribute [local irreducible] Wg
attribute [local irreducible] P2 Pd x0x Wx v00 z2u Wz
end Go.Abs
namespace Go.Abs
open Go Go.Proofs Go.Maps Go.RowKit
section
variable {P:Program} [Env P] {T:TT} {nt k:Nat} {S:AS}
theorem Y3 (hT:TOk P T) (hm:P.follows .mixedOrders=true) {Q:Exit→AS→Prop} {id:Nat} {l:List Oper} (Wr:List Nat) (p:PlanM) (Ph:AS→Prop) (hd:Yt nt l=true)
  (hp:(Region.noSelect l.toArray && p.size==l.length && Yq l.toArray (Uf l []) Wr p (Array.replicate l.length false))=true)
  (h:Y4 P T nt k l.toArray Wr.contains Ph p S) (hn:∀S',Ph S'→Q .normal S'):AWP P nt k (.region id l.toArray true) Q S:=
 (Gh (Q:=fun e S=>e= .normal∧Ph S) hT hm Wr p hd hp (Ee (fun _ h=>⟨rfl,h⟩) p S h)).mono fun e S ⟨he,hr⟩=>by subst he;exact hn S hr
end
attribute [local irreducible] Ej upL
end Go.Abs
namespace Go.Abs
open Go Go.Proofs Go.Maps Go.RowKit
attribute [simp] x2n y2t x2f w2a y2u y2x
def Tu(a:Aut)(j k:Nat):List Mv:=(a.mv.take j).filter fun m=>decide (m.src=(k:Int)) && !Wi m.on
theorem v0x(a:Aut)(k:Nat):Tu a a.mv.length k=Wa a k:=by simp[Tu,Wa]
theorem Ua(a:Aut)(k:Nat):Tu a 0 k=[]:=by simp[Tu]
theorem x0i(a:Aut){j:Nat}(h:j<a.mv.length)(k:Nat):Tu a (j+1) k=Tu a j k++(if decide (a.mv[j].src=(k:Int)) && !Wi a.mv[j].on then [a.mv[j]]else []):=by
 unfold Tu;rw[zY h,ui]
 congr 1
 rw[ux,tT]
theorem d0k(a:Aut)(j k:Nat):(Tu a j k).length≤a.mv.length:=by unfold Tu;refine yW (xX _ _) ?_;rw[wp];omega
def Tw(l:List Mv):AV:= .list (l.map encMv)
def Rv(a:Aut):List AV:=(yV a.fin.length).map fun k:Nat=>Tw (Wa a k)
def Q1(a:Aut):List AV:=[.i a.types,.list (a.fin.map .bool),.list (a.mv.map encMv),.list (Rv a)]
def Em(a:Aut):AV:= .agg (Q1 a)
def Sv(p:Nat)(xs:List Mv):AV:=if xs=[]then .nils else .sl p 3 0 xs.length
def F1(n:Nat)(L:Nat→Nat)(rs:Nat→List Mv):List AV:=(yV n).map fun k=>Sv (L k) (rs k)
theorem It(n:Nat)(L:Nat→Nat)(rs:Nat→List Mv):(F1 n L rs).length=n:=by simp[F1]
theorem Hi{n:Nat}(L:Nat→Nat)(rs:Nat→List Mv){k:Nat}(h:k<n):(F1 n L rs)[k]? =some (Sv (L k) (rs k)):=by simp[F1,h]
structure MR (K:List AObj) (n o:Nat) (rs:Nat→List Mv) (L:Nat→Nat) (H:List AObj):Prop where
 out:H[o]? =some (.va 23 1 (F1 n L rs))
 leaf:∀k,k<n→rs k≠[]→H[L k]? =some (.arr 78 3 ((rs k).map encMv))
 inj:∀k k',k<n→k'<n→rs k≠[]→rs k'≠[]→L k=L k'→k=k'
 ne:∀k,k<n→rs k≠[]→L k≠o
 geo:K.length≤o
 geL:∀k,k<n→rs k≠[]→K.length≤L k
 keep:∀j,j<K.length→H[j]? =K[j]?
theorem MR.grow{K:List AObj}{n o:Nat}{rs:Nat→List Mv}{L:Nat→Nat}{H:List AObj}(h:MR K n o rs L H)(E:List AObj):MR K n o rs L (H++E):=by have z1:=h.geo;have ho:=Qi h.out;exact⟨Qb h.out E,fun k hk hn=>Qb (h.leaf k hk hn) E,h.inj,h.ne,h.geo,h.geL,fun j hj=>by rw[zI (by omega)];exact h.keep j hj⟩
theorem MR.put {K:List AObj} {n o:Nat} {rs:Nat→List Mv} {L:Nat→Nat} {H H':List AObj} (h:MR K n o rs L H) {i:Nat} (hi:i<n) {m:Mv} {np:Nat} (zc:H.length≤np)
  (za:H'[o]? =some (.va 23 1 ((F1 n L rs).set i (.sl np 3 0 ((rs i).length+1))))) (z6:H'[np]? =some (.arr 78 3 ((rs i++[m]).map encMv)))
  (hk:∀j,j<H.length→j≠o→(rs i≠[]→j≠L i)→H'[j]? =H[j]?):MR K n o (fun k=>if k=i then rs i++[m]else rs k) (fun k=>if k=i then np else L k) H':=by
 have lo:=Qi h.out;have lL:=fun k hk hn=>Qi (h.leaf k hk hn);refine⟨?_,fun k z1 hn=> ?_,fun k k' z1 z7 hn z8 e=> ?_,fun k z1 hn=> ?_,h.geo,fun k z1 hn=> ?_,fun j hj=> ?_⟩
 ·rw[za]
  congr 2
  refine xW fun k=> ?_;by_cases z1:k<n
  ·rw[Hi _ _ z1];by_cases e:k=i
   ·subst e;rw[zU (by rw[It];exact z1)];simp[Sv]
   ·rw[zH (fun e'=>e e'.symm),Hi _ _ z1];simp[e]
  ·rw[xI (by rw[List.length_set,It];omega),xI (by rw[It];omega)]
 ·by_cases e:k=i
  ·subst e;simpa using z6
  ·simp only[e,if_false]at hn ⊢;rw[hk _ (lL k z1 hn) (h.ne k z1 hn) (fun zb e'=>e (h.inj k i z1 hi hn zb e'))];exact h.leaf k z1 hn
 ·by_cases e1:k=i
  ·by_cases e2:k'=i
   ·rw[e1,e2]
   ·simp only[e1,e2,if_true,if_false]at e z8;have:=lL k' z7 z8;omega
  ·by_cases e2:k'=i
   ·simp only[e1,e2,if_true,if_false]at e hn;have:=lL k z1 hn;omega
   ·simp only[e1,e2,if_false]at e hn z8;exact h.inj k k' z1 z7 hn z8 e
 ·by_cases e:k=i
  ·simp only[e,if_true];omega
  ·simp only[e,if_false]at hn ⊢;exact h.ne k z1 hn
 ·have zd:=h.geo;by_cases e:k=i
  ·simp only[e,if_true];omega
  ·simp only[e,if_false]at hn ⊢;exact h.geL k z1 hn
 ·have ze:=h.geo;rw[hk j (by omega) (by omega) (fun zb e=>by have:=h.geL i hi zb;omega)];exact h.keep j hj
def Bk(n:Nat)(L:Nat→Nat)(rs:Nat→List Mv)(k:Nat):List AV:=(yV n).map fun i=>if i<k∧rs i≠[]then Tw (rs i)else Sv (L i) (rs i)
section
variable {P:Program} [Env P] {nt kk:Nat} {cd:Code} {Q:Exit→AS→Prop}
theorem v0y(n:Nat)(L:Nat→Nat)(rs:Nat→List Mv):Bk n L rs 0=F1 n L rs:=by unfold Bk F1;exact xZ fun i _=>by rw[if_neg (by omega)]
theorem q1y{n:Nat}{L:Nat→Nat}{rs:Nat→List Mv}{k:Nat}(h:rs k=[]):Bk n L rs (k+1)=Bk n L rs k:=by
 unfold Bk;refine xZ fun i _=> ?_;by_cases e:i=k
 ·subst e;simp[h]
 ·by_cases h2:i<k
  ·simp[h2,show i<k+1 by omega]
  ·simp[h2,show ¬i<k+1 by omega]
theorem y1u{i c:Nat}{ys:List AV}{xs:List Mv}{p:Nat}(h:xs=[]∨p≠i):(Sv p xs).fz i c ys=Sv p xs:=by
 unfold Sv;split
 ·simp[AV.fz]
 ·rw[AV.fz,if_neg];rintro⟨e,_⟩;rcases h with h|h
  ·contradiction
  ·exact h e
theorem u0f{n:Nat}{L:Nat→Nat}{rs:Nat→List Mv}(z1:∀k k',k<n→k'<n→rs k≠[]→rs k'≠[]→L k=L k'→k=k'){k:Nat}(hk:k<n)(h:rs k≠[]):
  (Bk n L rs k).map (AV.fz (L k) 3 ((rs k).map encMv))=Bk n L rs (k+1):=by
 unfold Bk;rw[v_];refine xZ fun i hi=> ?_;have z6:=xJ.1 hi;simp only[Function.comp_apply];by_cases e:i=k
 ·subst e;simp only[Nat.lt_irrefl,false_and,if_false];rw[if_pos ⟨by omega,h⟩,Sv,if_neg h,AV.fz,if_pos ⟨rfl,rfl,by simp⟩];simp[Tw,zV]
 ·by_cases h2:i<k∧rs i≠[]
  ·rw[if_pos h2,if_pos ⟨by omega,h2.2⟩];simp[Tw,AV.fz]
  ·rw[if_neg h2,if_neg (fun h3=>h2 ⟨by omega,h3.2⟩)];refine y1u ?_;by_cases hr:rs i=[]
   ·exact .inl hr
   ·exact .inr fun e2=>e (z1 i k z6 hk hr h e2)
theorem MR.freeze {n o:Nat} {rs:Nat→List Mv} {L:Nat→Nat} {sl:List (Nat×AV)} (z1:∀k k',k<n→k'<n→rs k≠[]→rs k'≠[]→L k=L k'→k=k') (z7:∀k,k<n→rs k≠[]→L k≠o)
  (zb:∀k,k<n→rs k≠[]→sl.map (fun p=>(p.1,p.2.fz (L k) 3 ((rs k).map encMv)))=sl):∀(d k:Nat) (H:List AObj),k+d=n→H[o]? =some (.va 23 1 (Bk n L rs k))→(∀i,k≤i→i<n→rs i≠[]→H[L i]? =some (.arr 78 3 ((rs i).map encMv)))→
  (∀H',H'[o]? =some (.va 23 1 (Bk n L rs n))→(∀j,j<H.length→j≠o→(∀i,k≤i→i<n→rs i≠[]→j≠L i)→H'[j]? =H[j]?)→AWP P nt kk cd Q ⟨sl,H'⟩)→AWP P nt kk cd Q ⟨sl,H⟩
 |0,k,H,hd,ho,hl,h=>by
  have:k=n:=by omega
  subst this;exact h H ho fun _ _ _ _=>rfl
 |d+1,k,H,hd,ho,hl,h=>by
  by_cases hr:rs k=[]
  ·refine MR.freeze z1 z7 zb d (k+1) H (by omega) (by rw[q1y hr];exact ho) (fun i hi=>hl i (by omega)) fun H' zc zd=>h H' zc fun j hj z8 za=>zd j hj z8 fun i hi=>za i (by omega)
  ·have z6:k<n:=by omega
   have zg:=z7 k z6 hr;have zh:=hl k (zW _) z6 hr;refine Ui (L k) zh o ho (Ne.symm zg) rfl ?_;rw[zb k z6 hr];have zi:=Qi ho;have e:AObj.fz (L k) 3 ((rs k).map encMv) (.va 23 1 (Bk n L rs k))= .va 23 1 (Bk n L rs (k+1)):=by rw[AObj.fz,u0f z1 z6 hr]
   rw[e];refine MR.freeze z1 z7 zb d (k+1) _ (by omega) (zU (by simpa using zi)) (fun i hi ze zf=> ?_) fun H' zc zd=>h H' zc fun j hj z8 za=> ?_
   ·rw[zH (Ne.symm (z7 i ze zf)),zH (fun e2=>by have:=z1 k i z6 ze hr zf e2;omega)];exact hl i (by omega) ze zf
   ·rw[zd j (by simpa using hj) z8 fun i hi=>za i (by omega),zH (Ne.symm z8),zH (Ne.symm (za k (zW _) z6 hr))]
end
theorem j18(n:Nat)(L:Nat→Nat)(rs:Nat→List Mv):(Bk n L rs n).all (fun x=>x.cells.all AV.pure)=true∧(Bk n L rs n).map AV.nrm=(yV n).map fun k=>Tw (rs k):=by
 have hc:∀i,i<n→(if i<n∧rs i≠[]then Tw (rs i)else Sv (L i) (rs i))=if rs i=[]then .nils else Tw (rs i):=fun i hi=>by
  by_cases hr:rs i=[]
  ·rw[if_neg (fun h=>h.2 hr),if_pos hr,Sv,if_pos hr]
  ·rw[if_pos ⟨hi,hr⟩,if_neg hr]
 have e:Bk n L rs n=(yV n).map fun i=>if rs i=[]then .nils else Tw (rs i):=xZ fun i hi=>hc i (xJ.1 hi)
 rw[e];constructor
 ·rw[List.all_map,List.all_eq_true];intro i _;simp only[Function.comp_apply];split
  ·simp[AV.cells,AV.pure]
  ·simp[Tw,AV.cells,AV.pure]
 ·rw[v_];refine xZ fun i _=> ?_;simp only[Function.comp_apply];split
  ·rename_i h;rw[h];simp[Tw,AV.nrm]
  ·simp[Tw,AV.nrm]
attribute [local irreducible] Tu Ei Wa
theorem R9(a:Aut)(ha:OkA a):PC Tryz.prog 81 [encA a] (fun r=>r=Em a):=by
 refine Ql tOk Tryz.func81 rfl Tryz.results81 rfl (by simp[Tryz.ntmps81]) ?_;rw[Tryz.ntmps81];simp only[Qg];simp only[encA];have y4:=ha.fin;have yf:=ha.mvs;repeat first|(refine r_ ?_;simp)|refine q_ ?_
 refine Y3 (P:=Tryz.prog) tOk mixed [7] (.val 0 (.val 1 (.val 2 (.val 3 (.two 4 (.val 5 (.one 6 (.one 7 (.done)))) 6 (.one 4 (.val 5 (.one 7 (.done))))))))) (fun S'=>∃o c:Nat,o≠c∧2≤o∧2≤c∧S'.hp[0]? =some (.vars (Q7 a))∧S'.hp[1]? =some (.vars [.i 0,.nils,.nils,.nils])∧S'.hp[o]? =some (.arr 23 1 (List.replicate a.fin.length .nils))∧S'.hp[c]? =some (.vars [.i a.types,.list (a.fin.map .bool),.list (a.mv.map encMv),.sl o 1 0 a.fin.length])∧look S'.sl 1=some (.vptr 0 0)∧look S'.sl 2=some (.vptr 1 0)∧look S'.sl 3=some (.vptr c 0)) rfl (by kernel_rfl) ?_ ?_
 ·simp
  repeat' (first
   |refine And.intro ?_ ?_
   |(refine El tOk rfl rfl rfl y2t rfl T23 rfl rfl rfl (n:=a.fin.length) (by simp;omega) (by unfold maxLen;omega) .nils rfl ?_;simp))
  ·exact⟨2,3,by simp[Q7]⟩
  ·exact⟨3,2,by simp[Q7]⟩
 rintro⟨sl,H⟩ ⟨o,c,zq,y5,yg,h0,h1,ho,hc,s1,s2,s3⟩;simp only at h0 h1 ho hc s1 s2 s3;simp;refine Qw (sl':=[(1,.vptr 0 0),(2,.vptr 1 0),(3,.vptr c 0)]) ?_ (by simp[s1,s2,s3]);refine Fb o ho ?_;refine Wf fun Z hZ=> ?_;have z0:Z[0]? =some (.vars (Q7 a)):=by rw[hZ,zH (by omega)];exact h0
 have zc:Z[c]? =some (.vars [.i a.types,.list (a.fin.map .bool),.list (a.mv.map encMv),.sl o 1 0 a.fin.length]):=by rw[hZ,zH zq];exact hc
 have zM:MR [.vars (Q7 a),.vars [.i 0,.nils,.nils,.nils]] a.fin.length o (Tu a 0) (fun _=>0) Z:=by
  refine⟨?_,fun k _ hn=>absurd (Ua a k) hn,fun k _ _ _ hn=>absurd (Ua a k) hn,fun k _ hn=>absurd (Ua a k) hn,by simpa using y5,fun k _ hn=>absurd (Ua a k) hn,fun j hj=> ?_⟩
  ·rw[hZ,zU (Qi ho)]
   congr 2
   rw[eq_comm,List.eq_replicate_iff];refine⟨It _ _ _,fun x hx=> ?_⟩;obtain⟨k,_,rfl⟩:=zX.1 hx;simp[Sv,Ua]
  ·simp only[yY,tU]at hj;rw[hZ,zH (by omega)];rcases j with _|_|j
   ·exact h0
   ·exact h1
   ·omega
 clear hZ h0 h1 ho hc;clear H;repeat first|(refine r_ ?_;simp[z0])|refine q_ ?_
 refine Qo (Qc (sl':=[(1,.vptr 0 0),(2,.vptr 1 0),(3,.vptr c 0),(15,.list (a.mv.map encMv)),(16,.i a.mv.length),(17,.i (0:Nat))]) ?_ (by simp));refine Qp (F:=fun(u:Nat×(Nat→Nat)×List AObj)=>⟨[(1,.vptr 0 0),(2,.vptr 1 0),(3,.vptr c 0),(15,.list (a.mv.map encMv)),(16,.i a.mv.length),(17,.i u.1)],u.2.2⟩)
  (fun u=>u.1≤a.mv.length∧u.2.2[c]? =some (.vars [.i a.types,.list (a.fin.map .bool),.list (a.mv.map encMv),.sl o 1 0 a.fin.length])∧MR [.vars (Q7 a),.vars [.i 0,.nils,.nils,.nils]] a.fin.length o (Tu a u.1) u.2.1 u.2.2) (fun u=>a.mv.length - u.1) ?_ (0,fun _=>0,Z) ⟨wD _,zc,zM⟩
 clear z0 zc zM;clear Z;rintro⟨j,L,G⟩ ⟨hj,gc,gM⟩ ih;simp only at hj gc gM ih ⊢;repeat first|(refine r_ ?_;simp)|refine q_ ?_
 refine Qa rfl (fun y6=> ?_) (fun y7=> ?_)
 ·have zd:j<a.mv.length:=by simpa using y6
  have hw:IntKind.i64.wrap ((j:Int)+1)=j+1:=wrap_i64 _ (by omega) (by omega);have y0:=x0i a zd;have y8:=d0k a j;have zr:=ha.mv _ (zT zd);have zt:=Hp ha (zT zd);have zo:=fun L' G'=>ih (j+1,L',G');simp only at zo;repeat first|(refine r_ ?_;simp[zd])|refine q_ ?_
  generalize a.mv[j]=m at *;refine Qe rfl rfl (by simp) (Ah a.types.toNat m.on m.on zr.on.wf zr.on.wf (fun s hs=>by have:=zt s hs;omega) (fun s hs=>by have:=zt s hs;omega) (by have:=ha.types;omega)) rfl ?_
  rintro _ rfl;simp;rw[B3 zr.on.wf];cases hv:Wi m.on with
  |true=>
   have ze:Tu a (j+1)=Tu a j:=funext fun k=>by rw[y0 k,hv];simp
   rw[ze]at zo;simp[Nr,encSy];repeat first|(refine r_ ?_;simp)|refine q_ ?_
   refine Qm rfl ?_;repeat first|(refine r_ ?_;simp[hw])|refine q_ ?_
   refine Qc (sl':=[(1,.vptr 0 0),(2,.vptr 1 0),(3,.vptr c 0),(15,.list (a.mv.map encMv)),(16,.i a.mv.length),(17,.i (j+1:Nat))]) ?_ (by simp);exact zo L _ ⟨by omega,Qb gc _,gM.grow _⟩ (by omega)
  |false=>
   obtain⟨k,hk⟩:∃k:Nat,m.src=k:=⟨m.src.toNat,by have:=zr.src.1;omega⟩
   have z7:k<a.fin.length:=by have:=zr.src.2;omega
   have ze:Tu a (j+1)=fun k'=>if k'=k then Tu a j k++[m]else Tu a j k':=funext fun k'=>by
    rw[y0 k',hv];by_cases e:k'=k
    ·subst e;simp[hk]
    ·have:¬m.src=(k':Int):=by omega
     simp[e,this]
   rw[ze]at zo;simp[Nr,encSy];repeat first|(refine r_ ?_;simp)|refine q_ ?_
   refine Qm rfl ?_;refine Wf fun Z hZ=> ?_;have zc:Z[c]? =some (.vars [.i a.types,.list (a.fin.map .bool),.list (a.mv.map encMv),.sl o 1 0 a.fin.length]):=by rw[hZ];exact Qb gc _
   have zM:MR [.vars (Q7 a),.vars [.i 0,.nils,.nils,.nils]] a.fin.length o (Tu a j) L Z:=by rw[hZ];exact gM.grow _
   have zm:Z[G.length]? =some (.vars [.i m.src,.i m.dst,.list (m.on.map encL)]):=by rw[hZ,zL (by simp)];simp
   clear hZ gc gM y0 ze;generalize G.length=g at *;clear G
   have z6:=Hi L (Tu a j) z7;have zj:=It a.fin.length L (Tu a j);have z8:=zM.out;have zu:=zM.leaf k z7;rw[hk]at zm;have zb:∀M,(Z++M)[c]? =some (.vars [.i a.types,.list (a.fin.map .bool),.list (a.mv.map encMv),.sl o 1 0 a.fin.length]):=fun M=>Qb zc M;have outA:∀M,(Z++M)[o]? =some (.va 23 1 (F1 a.fin.length L (Tu a j))):=fun M=>Qb z8 M;have zf:∀M,(Z++M)[g]? =some (.vars [.i k,.i m.dst,.list (m.on.map encL)]):=fun M=>Qb zm M;have zk:∀M hh,(Z++M)[c]'hh= .vars [.i a.types,.list (a.fin.map .bool),.list (a.mv.map encMv),.sl o 1 0 a.fin.length]:=fun M hh=>(yJ hh).2 (zb M);have outH:∀M hh,(Z++M)[o]'hh= .va 23 1 (F1 a.fin.length L (Tu a j)):=fun M hh=>(yJ hh).2 (outA M);have zl:∀M hh,(Z++M)[g]'hh= .vars [.i k,.i m.dst,.list (m.on.map encL)]:=fun M hh=>(yJ hh).2 (zf M);repeat first|(refine r_ ?_;simp)|refine q_ ?_
   generalize zv:F1 a.fin.length L (Tu a j)=RC at *
   have yh:=y8 k;generalize zh:Tu a j k=rs at *
   by_cases hr0:rs=[]
   ·rw[Sv,if_pos hr0]at z6;have zi:∀hh,RC[k]'hh= .nils:=fun hh=>by rw[zP hh]at z6;exact Option.some.inj z6
    refine Y3 (P:=Tryz.prog) tOk mixed [12,14] (.val 0 (.val 2 (.val 4 (.val 5 (.val 6 (.val 7 (.val 8 (.val 9 (.val 10 (.three 1 (.two 3 (.one 11 (.one 12 (.val 13 (.one 14 (.done))))) 11 (.two 3 (.one 12 (.val 13 (.one 14 (.done)))) 12 (.val 3 (.val 13 (.one 14 (.done)))))) 3 (.two 1 (.one 11 (.one 12 (.val 13 (.one 14 (.done))))) 11 (.two 1 (.one 12 (.val 13 (.one 14 (.done)))) 12 (.val 1 (.val 13 (.one 14 (.done)))))) 11 (.three 1 (.two 3 (.one 12 (.val 13 (.one 14 (.done)))) 12 (.val 3 (.val 13 (.one 14 (.done))))) 3 (.two 1 (.one 12 (.val 13 (.one 14 (.done)))) 12 (.val 1 (.val 13 (.one 14 (.done))))) 12 (.val 1 (.val 3 (.val 13 (.one 14 (.done)))))))))))))))) (fun S'=>S'.hp=(Z++[AObj.arr 78 3 [.agg [.i k,.i m.dst,.list (m.on.map encL)]],AObj.arr 78 3 [.agg [.i k,.i m.dst,.list (m.on.map encL)]]]).set o (.va 23 1 (RC.set k (.sl (Z.length+1) 3 0 1)))∧look S'.sl 1=some (.vptr 0 0)∧look S'.sl 2=some (.vptr 1 0)∧look S'.sl 3=some (.vptr c 0)∧look S'.sl 15=some (.list (a.mv.map encMv))∧look S'.sl 16=some (.i a.mv.length)∧look S'.sl 17=some (.i j)) rfl (by kernel_rfl) ?_ ?_
    ·simp[zc,z8,zm,z6,zi,z7,zj,zb,outA,zf,zk,outH,zl]
     repeat' (first
      |refine And.intro ?_ ?_
      |(refine Qf tOk rfl rfl T23 rfl T78 rfl (by decide) (by decide) rfl rfl rfl ?_;simp[zb,outA,zf,zk,outH,zl,z6,zi,z7,zj];refine⟨by simp[Wk]<;>omega,?_⟩;simp[zb,outA,zf,zk,outH,zl,z6,zi,z7,zj]))
    ·rintro⟨sl,E⟩ ⟨rfl,s1,s2,s3,s15,s16,s17⟩;simp only at s1 s2 s3 s15 s16 s17;simp;refine Qw (sl':=[(1,.vptr 0 0),(2,.vptr 1 0),(3,.vptr c 0),(15,.list (a.mv.map encMv)),(16,.i a.mv.length),(17,.i j)]) ?_ (by simp[s1,s2,s3,s15,s16,s17]);repeat first|(refine r_ ?_;simp[hw])|refine q_ ?_
     refine Qc (sl':=[(1,.vptr 0 0),(2,.vptr 1 0),(3,.vptr c 0),(15,.list (a.mv.map encMv)),(16,.i a.mv.length),(17,.i (j+1:Nat))]) ?_ (by simp);have zx:=Qi z8;have za:=zM.put z7 (m:=m) (np:=Z.length+1) (H':=(Z++[AObj.arr 78 3 [.agg [.i k,.i m.dst,.list (m.on.map encL)]],AObj.arr 78 3 [.agg [.i k,.i m.dst,.list (m.on.map encL)]]]).set o (.va 23 1 (RC.set k (.sl (Z.length+1) 3 0 1)))) (by omega)
      (by rw[zU (by simp;omega),zv,zh,hr0];rfl) (by rw[zH (by omega),zL (by omega),zh,hr0];simp[hk]) (fun jj h1 h2 _=>by rw[zH (Ne.symm h2),zI h1])
     rw[zh]at za;exact zo _ _ ⟨by omega,by rw[zH zq];exact zb _,za⟩ (by omega)
   ·rw[Sv,if_neg hr0]at z6;have zi:∀hh,RC[k]'hh= .sl (L k) 3 0 rs.length:=fun hh=>by rw[zP hh]at z6;exact Option.some.inj z6
    have zp:=zu hr0;have hlo:=zM.ne k z7 (by rw[zh];exact hr0);have y9:L k≠c:=fun e=>by rw[e,zc]at zp;simp at zp
    have ya:L k≠g:=fun e=>by rw[e,zm]at zp;simp at zp
    have yi:=Qi zp;have zg:∀M,(Z++M)[L k]? =some (.arr 78 3 (rs.map encMv)):=fun M=>Qb zp M;have zn:∀M hh,(Z++M)[L k]'hh= .arr 78 3 (rs.map encMv):=fun M hh=>(yJ hh).2 (zg M);generalize yb:L k=p at *
    have outS:∀M M',((Z++M).set p .dead++M')[o]? =some (.va 23 1 RC):=fun M M'=>Qb (Qd hlo (outA M) _) M';have outSH:∀M M' hh,((Z++M).set p .dead++M')[o]'hh= .va 23 1 RC:=fun M M' hh=>(yJ hh).2 (outS M M');have zw:∀M M',((Z++M).set p .dead++M')[c]? =some (.vars [.i a.types,.list (a.fin.map .bool),.list (a.mv.map encMv),.sl o 1 0 a.fin.length]):=fun M M'=>Qb (Qd y9 (zb M) _) M';have zcSH:∀M M' hh,((Z++M).set p .dead++M')[c]'hh= .vars [.i a.types,.list (a.fin.map .bool),.list (a.mv.map encMv),.sl o 1 0 a.fin.length]:=fun M M' hh=>(yJ hh).2 (zw M M');have zy:∀M M',((Z++M).set p .dead++M')[g]? =some (.vars [.i k,.i m.dst,.list (m.on.map encL)]):=fun M M'=>Qb (Qd ya (zf M) _) M';have zmSH:∀M M' hh,((Z++M).set p .dead++M')[g]'hh= .vars [.i k,.i m.dst,.list (m.on.map encL)]:=fun M M' hh=>(yJ hh).2 (zy M M');refine Y3 (P:=Tryz.prog) tOk mixed [12,14] (.val 0 (.val 2 (.val 4 (.val 5 (.val 6 (.val 7 (.val 8 (.val 9 (.val 10 (.three 1 (.two 3 (.one 11 (.one 12 (.val 13 (.one 14 (.done))))) 11 (.two 3 (.one 12 (.val 13 (.one 14 (.done)))) 12 (.val 3 (.val 13 (.one 14 (.done)))))) 3 (.two 1 (.one 11 (.one 12 (.val 13 (.one 14 (.done))))) 11 (.two 1 (.one 12 (.val 13 (.one 14 (.done)))) 12 (.val 1 (.val 13 (.one 14 (.done)))))) 11 (.three 1 (.two 3 (.one 12 (.val 13 (.one 14 (.done)))) 12 (.val 3 (.val 13 (.one 14 (.done))))) 3 (.two 1 (.one 12 (.val 13 (.one 14 (.done)))) 12 (.val 1 (.val 13 (.one 14 (.done))))) 12 (.val 1 (.val 3 (.val 13 (.one 14 (.done)))))))))))))))) (fun S'=>S'.hp=((Z++[AObj.arr 78 3 [.agg [.i k,.i m.dst,.list (m.on.map encL)]]]).set p .dead++[AObj.arr 78 3 (rs.map encMv++[.agg [.i k,.i m.dst,.list (m.on.map encL)]])]).set o (.va 23 1 (RC.set k (.sl (Z.length+1) 3 0 (rs.length+1))))∧look S'.sl 1=some (.vptr 0 0)∧look S'.sl 2=some (.vptr 1 0)∧look S'.sl 3=some (.vptr c 0)∧look S'.sl 15=some (.list (a.mv.map encMv))∧look S'.sl 16=some (.i a.mv.length)∧look S'.sl 17=some (.i j)) rfl (by kernel_rfl) ?_ ?_
    ·simp[zc,z8,zm,z6,zi,z7,zj,zb,outA,zf,zk,outH,zl,zg,zn]
     repeat' (first
      |refine And.intro ?_ ?_
      |(refine Qf tOk rfl rfl T23 rfl T78 rfl (by decide) (by decide) rfl rfl rfl ?_;simp[zb,outA,zf,zk,outH,zl,z6,zi,z7,zj,zg,zn,outS,outSH,zw,zcSH,zy,zmSH];refine⟨by simp[Wk]<;>omega,?_⟩;simp[zb,outA,zf,zk,outH,zl,z6,zi,z7,zj,outS,outSH,zw,zcSH,zy,zmSH])
      |(refine Qf tOk rfl rfl T23 rfl T78 rfl (by decide) (by decide) rfl rfl rfl ?_;simp[zb,outA,zf,zk,outH,zl,z6,zi,z7,zj,zg,zn,outS,outSH,zw,zcSH,zy,zmSH];simp[Wk]<;>omega)
      |omega)
    ·rintro⟨sl,E⟩ ⟨rfl,s1,s2,s3,s15,s16,s17⟩;simp only at s1 s2 s3 s15 s16 s17;simp;refine Qw (sl':=[(1,.vptr 0 0),(2,.vptr 1 0),(3,.vptr c 0),(15,.list (a.mv.map encMv)),(16,.i a.mv.length),(17,.i j)]) ?_ (by simp[s1,s2,s3,s15,s16,s17]);repeat first|(refine r_ ?_;simp[hw])|refine q_ ?_
     refine Qc (sl':=[(1,.vptr 0 0),(2,.vptr 1 0),(3,.vptr c 0),(15,.list (a.mv.map encMv)),(16,.i a.mv.length),(17,.i (j+1:Nat))]) ?_ (by simp);have zx:=Qi z8;have za:=zM.put z7 (m:=m) (np:=Z.length+1) (H':=((Z++[AObj.arr 78 3 [.agg [.i k,.i m.dst,.list (m.on.map encL)]]]).set p .dead++[AObj.arr 78 3 (rs.map encMv++[.agg [.i k,.i m.dst,.list (m.on.map encL)]])]).set o (.va 23 1 (RC.set k (.sl (Z.length+1) 3 0 (rs.length+1))))) (by omega)
      (by rw[zU (by simp;omega),zv,zh]) (by rw[zH (by omega),zL (by simp),zh];simp[hk]) (fun jj h1 h2 h3=>by
       have h4:p≠jj:=fun e=>h3 (by rw[zh];exact hr0) (by rw[yb];exact e.symm);rw[zH (Ne.symm h2),zI (by simp;omega),zH h4,zI h1])
     rw[zh]at za;exact zo _ _ ⟨by omega,by rw[zH zq];exact zw _ _,za⟩ (by omega)
 ·have y1:j=a.mv.length:=by simp at y7;omega
  subst y1;refine Qw (sl':=[(1,.vptr 0 0),(2,.vptr 1 0),(3,.vptr c 0)]) ?_ (by simp);refine MR.freeze (n:=a.fin.length) (o:=o) gM.inj gM.ne (fun k hk hn=>by simp[AV.fz]) a.fin.length 0 G (by omega) (by rw[v0y];exact gM.out) (fun k _ hk hn=>gM.leaf k hk hn) fun H' y2 zz=> ?_;obtain⟨yc,yd⟩:=j18 a.fin.length L (Tu a a.mv.length);have y3:H'[c]? =some (.vars [.i a.types,.list (a.fin.map .bool),.list (a.mv.map encMv),.sl o 1 0 a.fin.length]):=by rw[zz c (Qi gc) (Ne.symm zq) (fun i _ hi hr e=>by have:=gM.leaf i hi hr;rw[←e,gc]at this;simp at this)];exact gc
  have yj:H'[0]? =some (.vars (Q7 a)):=by rw[zz 0 (by have:=Qi gM.out;omega) (by omega) (fun i _ hi hr e=>by have:=gM.geL i hi hr;simp at this;omega)];exact gM.keep 0 (by simp)
  have ye:H'[1]? =some (.vars [.i 0,.nils,.nils,.nils]):=by rw[zz 1 (by have:=Qi gM.out;omega) (by omega) (fun i _ hi hr e=>by have:=gM.geL i hi hr;simp at this;omega)];exact gM.keep 1 (by simp)
  have zx:=Qi y2;clear zz ih gM gc;refine I7 o y2 yc ?_;refine z00 o (zU zx) ?_;rw[yd,List.set_set];refine We o (zU zx) c (by rw[zH zq];exact y3) ?_;refine Wf fun Z hZ=> ?_;have zc:Z[c]? =some (.vars (Q1 a)):=by rw[hZ,zU (by simpa using Qi y3)];simp[AV.fz,Q1,Rv,v0x];rw[zV (by simp)]
  have z1:Z[1]? =some (.vars [.i 0,.nils,.nils,.nils]):=by rw[hZ,zH (by omega),zH (by omega),zH (by omega)];exact ye
  clear hZ;simp[AV.fz];unfold Em Q1;unfold Q1 at zc;repeat first|(refine r_ ?_;simp[zc,z1,Qh z1])|refine q_ ?_
end Go.Abs
namespace Go.Abs
open Go Go.Proofs Go.Maps Go.RowKit
abbrev Stp:=Sy×(Int×Int)
def w1t(e:Stp):AV:= .agg [.i e.1.ty,.i e.1.num,.i e.2.1,.i e.2.2]
theorem Zo(a b:Aut)(p q:Int):PC Tryz.prog 105 [Em a,Em b,.i p,.i q] (fun r=>r= .fn (.func 164) [] [.iptr (Q1 a),.iptr [.i p],.iptr (Q1 b),.iptr [.i q]]):=by refine Ql tOk Tryz.func105 rfl Tryz.results105 rfl (by simp[Tryz.ntmps105]) ?_;rw[Tryz.ntmps105];simp only[Qg];simp only[Em,Q1];repeat first|(refine r_ ?_;simp)|refine q_ ?_
def Z0(b:Aut)(q:Int)(m:Mv)(j:Nat):List Stp:=((Wa b q).take j).filterMap fun n=>(Ei m.on n.on).map fun x=>(x,(m.dst,n.dst))
def I3(a b:Aut)(s:Int×Int)(i:Nat):List Stp:=((Wa a s.1).take i).flatMap fun m=>Z0 b s.2 m (Wa b s.2).length
theorem Vl(a b:Aut)(s:Int×Int):I3 a b s (Wa a s.1).length=Wj a b s:=by rw[w11,I3,xB];unfold Z0;rw[xB]
theorem y0q(a b:Aut)(s:Int×Int):I3 a b s 0=[]:=by simp[I3]
theorem d0h(b:Aut)(q:Int)(m:Mv):Z0 b q m 0=[]:=by simp[Z0]
theorem x0j(a b:Aut)(s:Int×Int){i:Nat}(h:i<(Wa a s.1).length):I3 a b s (i+1)=I3 a b s i++Z0 b s.2 (Wa a s.1)[i] (Wa b s.2).length:=by unfold I3;rw[zY h,ww];simp
theorem g0k(b:Aut)(q:Int)(m:Mv){j:Nat}(h:j<(Wa b q).length):Z0 b q m (j+1)=Z0 b q m j++(match Ei m.on (Wa b q)[j].on with|some x=>[(x,(m.dst,(Wa b q)[j].dst))]|none=>[]):=by
 unfold Z0;rw[zY h,tj]
 congr 1
 cases hx:Ei m.on (Wa b q)[j].on<;>simp[hx]
theorem w1p(b:Aut)(q:Int)(m:Mv)(j:Nat):∃r,Z0 b q m (Wa b q).length=Z0 b q m j++r:=by refine⟨((Wa b q).drop j).filterMap fun n=>(Ei m.on n.on).map fun x=>(x,(m.dst,n.dst)),?_⟩;unfold Z0;rw[←tj,xY,xB]
theorem j0i(a b:Aut)(s:Int×Int)(i:Nat):∃r,Wj a b s=I3 a b s i++r:=by refine⟨((Wa a s.1).drop i).flatMap fun m=>Z0 b s.2 m (Wa b s.2).length,?_⟩;rw[←Vl];unfold I3;rw[←ww,xY,xB]
theorem L5{a:Aut}{s:Int}(h:inS a s):(Rv a)[s.toNat]? =some (Tw (Wa a s)):=by have:=Fm h;unfold Rv;rw[yI,List.getElem?_range this.1];simp[this.2]
theorem Bx{a:Aut}(ha:OkA a){s:Int}{m:Mv}(hm:m∈Wa a s):PWf a.types.toNat m.on∧∀t∈m.on,t.length≤256:=by have:=(Wu.1 hm).1;exact⟨ha.wfA.on m this,Hp ha this⟩
theorem Fg(a:Aut)(s:Int):(Wa a s).length≤a.mv.length:=xX _ _
attribute [local irreducible] Wa Ei Z0 I3 Rv Wj
theorem Fv (a b:Aut) (ha:OkA a) (hb:OkA b) (ht:b.types=a.types) (p q:Int) (hp:inS a p) (hq:inS b q) (l:Nat) {z8:Nat} {sl':List (Nat×AV)} {ps:List Tmp} {asg body:Code} (y4:ps.length=1) (y5:(ps.all fun p=>decide (p<z8))=true)
  (Inv:List Stp→List AObj→Prop) (Done:Code→List AObj→Prop) (H0:List AObj)
  (hI:∀k H,Inv k H→H[l]? =some (.lp true none z8 sl' ps asg body))
  (z7:∀k H L,Inv k H→Inv k (H++L))
  (zb:∀pre e post H,Wj a b (p,q)=pre++e::post→Inv pre H→H0.length≤H.length→AWP Tryz.prog z8 H.length asg (Ac (AWP Tryz.prog z8 H.length body (g0y l (fun jm K2=>(jm=none∧Inv (pre++[e]) (K2.set l (.lp true none z8 sl' ps asg body))∧∀i cs,H0.length≤i→H[i]? =some (.vars cs)→(K2.set l (.lp true none z8 sl' ps asg body))[i]? =some (.vars cs))∨∃c,jm=some c∧Done c (K2.set l (.lp false (some c) z8 sl' ps asg body))))) (fun _ _=>False)) ⟨Tq sl' ps [w1t e],H.set l .dead⟩)
  (h0:Inv [] H0):FC Tryz.prog 164 [.yld l,.iptr (Q1 a),.iptr [.i p],.iptr (Q1 b),.iptr [.i q]] H0 (fun _ H'=>Inv (Wj a b (p,q)) H'∨∃c,Done c H'):=by
 refine W9 tOk Tryz.func164 rfl Tryz.results164 rfl (by simp[Tryz.ntmps164]) ?_;rw[Tryz.ntmps164];simp only[Qg];have zk:=L5 hp;have zl:=L5 hq;have yv:=Fm hp;have yw:=Fm hq;have y6:=Fg a p;have y7:=Fg b q;have yx:=ha.mvs;have yy:=hb.mvs;have y8:=hp.1;have y9:=hq.1;have ya:(Rv a).length=a.fin.length:=by unfold Rv;simp
 have yb:(Rv b).length=b.fin.length:=by unfold Rv;simp
 have yc:=hp.2;have yd:=hq.2;simp only[Q1,Tw]at zk zl ⊢;have zn:∀hh,(Rv a)[p.toNat]'hh= .list ((Wa a p).map encMv):=fun hh=>by rw[zP hh]at zk;exact Option.some.inj zk
 have zo:∀hh,(Rv b)[q.toNat]'hh= .list ((Wa b q).map encMv):=fun hh=>by rw[zP hh]at zl;exact Option.some.inj zl
 repeat first|(refine r_ ?_;simp[zk,zn,y8,yc,ya])|refine q_ ?_
 have ye:(b.types).toNat=a.types.toNat:=by rw[ht]
 refine Qo (Qc (sl':=[(0,.yld l),(1,.iptr [.i a.types,.list (a.fin.map .bool),.list (a.mv.map encMv),.list (Rv a)]),(2,.iptr [.i p]),(3,.iptr [.i b.types,.list (b.fin.map .bool),.list (b.mv.map encMv),.list (Rv b)]),(4,.iptr [.i q]),(16,.list ((Wa a p).map encMv)),(17,.i (Wa a p).length),(18,.i (0:Nat))]) ?_ (by simp));have zp:I3 a b (p,q) (Wa a p).length=Wj a b (p,q):=Vl a b (p,q);have zg:=fun i h=>x0j a b (p,q) (i:=i) h;have zc:=fun m j h=>g0k b q m (j:=j) h;have zh:=fun m j=>w1p b q m j;have zi:=fun i=>j0i a b (p,q) i;have hz:I3 a b (p,q) 0=[]:=y0q a b (p,q);have yf:∀m,Z0 b q m 0=[]:=fun m=>d0h b q m;refine Qp (F:=fun(u:Nat×List AObj)=>⟨[(0,.yld l),(1,.iptr [.i a.types,.list (a.fin.map .bool),.list (a.mv.map encMv),.list (Rv a)]),(2,.iptr [.i p]),(3,.iptr [.i b.types,.list (b.fin.map .bool),.list (b.mv.map encMv),.list (Rv b)]),(4,.iptr [.i q]),(16,.list ((Wa a p).map encMv)),(17,.i (Wa a p).length),(18,.i u.1)],u.2⟩)
  (fun u=>u.1≤(Wa a p).length∧Inv (I3 a b (p,q) u.1) u.2∧H0.length≤u.2.length) (fun u=>(Wa a p).length - u.1) ?_ (0,H0) ⟨by simp,by rw[hz];exact h0,zW _⟩
 rintro⟨i,H⟩ ⟨hi,hv,zw⟩ ih;simp only at hi hv zw ih ⊢;repeat first|(refine r_ ?_;simp)|refine q_ ?_
 refine Qa rfl (fun yg=> ?_) (fun yh=> ?_)
 ·have za:i<(Wa a p).length:=by simpa using yg
  have hw:IntKind.i64.wrap ((i:Int)+1)=i+1:=wrap_i64 _ (by omega) (by omega);have zy:=zg i za;obtain⟨yi,yj⟩:=Bx ha (zT za);have yk:∃r,Wj a b (p,q)=(I3 a b (p,q) i++Z0 b q (Wa a p)[i] (Wa b q).length)++r:=by obtain⟨r,hr⟩:=zi (i+1);exact⟨r,by rw[hr,zy]⟩
  have zd:((Wa a p).map encMv)[i]? =some (encMv (Wa a p)[i]):=by simp[za]
  have ze:∀hh,((Wa a p).map encMv)[i]'hh=encMv (Wa a p)[i]:=fun hh=>by simp
  have zz:=fun H'=>ih (i+1,H');simp only[zy]at zz;generalize (Wa a p)[i]=m at *
  have yl:=zc m;have ym:=zh m;have yn:=yf m;simp only[encMv]at zd ze;have zq:=z7 _ H [.vars [.i m.src,.i m.dst,.list (m.on.map encL)]] hv;repeat first|(refine r_ ?_;simp[zl,zo,y9,yd,yb,zd,ze,za])|refine q_ ?_
  refine Wf fun Z hZ=> ?_;have zx:Z[H.length]? =some (.vars [.i m.src,.i m.dst,.list (m.on.map encL)]):=by rw[hZ,zL (by simp)];simp
  rw[←hZ]at zq;clear hZ hv zd ze;generalize H.length=x at *;clear H;refine Qo (Qc (sl':=[(0,.yld l),(1,.iptr [.i a.types,.list (a.fin.map .bool),.list (a.mv.map encMv),.list (Rv a)]),(2,.iptr [.i p]),(3,.iptr [.i b.types,.list (b.fin.map .bool),.list (b.mv.map encMv),.list (Rv b)]),(4,.iptr [.i q]),(7,.vptr x 0),(16,.list ((Wa a p).map encMv)),(17,.i (Wa a p).length),(18,.i i),(26,.list ((Wa b q).map encMv)),(27,.i (Wa b q).length),(28,.i (0:Nat))]) ?_ (by simp))
  refine Qp (F:=fun(u:Nat×List AObj)=>⟨[(0,.yld l),(1,.iptr [.i a.types,.list (a.fin.map .bool),.list (a.mv.map encMv),.list (Rv a)]),(2,.iptr [.i p]),(3,.iptr [.i b.types,.list (b.fin.map .bool),.list (b.mv.map encMv),.list (Rv b)]),(4,.iptr [.i q]),(7,.vptr x 0),(16,.list ((Wa a p).map encMv)),(17,.i (Wa a p).length),(18,.i i),(26,.list ((Wa b q).map encMv)),(27,.i (Wa b q).length),(28,.i u.1)],u.2⟩)
   (fun u=>u.1≤(Wa b q).length∧Inv (I3 a b (p,q) i++Z0 b q m u.1) u.2∧u.2[x]? =some (.vars [.i m.src,.i m.dst,.list (m.on.map encL)])) (fun u=>(Wa b q).length - u.1) ?_ (0,Z) ⟨by simp,by rw[yn,xO];exact zq,zx⟩
  clear zx zq;clear Z;rintro⟨j,G⟩ ⟨hj,gv,gx⟩ ih2;simp only at hj gv gx ih2 ⊢;repeat first|(refine r_ ?_;simp)|refine q_ ?_
  refine Qa rfl (fun zr=> ?_) (fun zt=> ?_)
  ·have z1:j<(Wa b q).length:=by simpa using zr
   have y0:IntKind.i64.wrap ((j:Int)+1)=j+1:=wrap_i64 _ (by omega) (by omega);have y1:=yl j z1;obtain⟨yo,yp⟩:=Bx hb (zT z1);obtain⟨r1,zm⟩:=ym (j+1);obtain⟨r2,yq⟩:=yk;have zd:((Wa b q).map encMv)[j]? =some (encMv (Wa b q)[j]):=by simp[z1]
   have ze:∀hh,((Wa b q).map encMv)[j]'hh=encMv (Wa b q)[j]:=fun hh=>by simp
   have z6:=fun H'=>ih2 (j+1,H');rw[y1]at zm;simp only[y1]at z6;generalize (Wa b q)[j]=n at *;simp only[encMv]at zd ze
   have zf:∀M,(G++M)[x]? =some (.vars [.i m.src,.i m.dst,.list (m.on.map encL)]):=fun M=>Qb gx M;have zu:∀M hh,(G++M)[x]'hh= .vars [.i m.src,.i m.dst,.list (m.on.map encL)]:=fun M hh=>(yJ hh).2 (zf M);repeat first|(refine r_ ?_;simp[zd,ze,z1,zf,zu])|refine q_ ?_
   refine Qe rfl rfl (by simp) (Ah a.types.toNat m.on n.on yi (by rw[←ye];exact yo) (fun s hs=>by have:=yj s hs;omega) (fun s hs=>by have:=yp s hs;omega) (by have:=ha.types;omega)) rfl ?_;rintro _ rfl;simp;cases hx:Ei m.on n.on with
   |none=>
    rw[hx]at zm z6;simp only[xO]at z6;simp[Nr,encSy];repeat first|(refine r_ ?_;simp[zf,zu])|refine q_ ?_
    refine Q4 rfl rfl ?_;simp;repeat first|(refine r_ ?_;simp)|refine q_ ?_
    refine Qa rfl (fun h=>by cases h) (fun _=> ?_);repeat first|(refine r_ ?_;simp[y0])|refine q_ ?_
    refine Qc (sl':=[(0,.yld l),(1,.iptr [.i a.types,.list (a.fin.map .bool),.list (a.mv.map encMv),.list (Rv a)]),(2,.iptr [.i p]),(3,.iptr [.i b.types,.list (b.fin.map .bool),.list (b.mv.map encMv),.list (Rv b)]),(4,.iptr [.i q]),(7,.vptr x 0),(16,.list ((Wa a p).map encMv)),(17,.i (Wa a p).length),(18,.i i),(26,.list ((Wa b q).map encMv)),(27,.i (Wa b q).length),(28,.i (j+1:Nat))]) ?_ (by simp);exact z6 _ ⟨by omega,z7 _ _ _ gv,zf _⟩ (by omega)
   |some y=>
    rw[hx]at zm z6;simp[Nr,encSy];repeat first|(refine r_ ?_;simp[zf,zu])|refine q_ ?_
    have y2:=z7 _ G [.vars [.i n.src,.i n.dst,.list (n.on.map encL)],.vars [.i y.ty,.i y.num]] gv;have y3:=zf [.vars [.i n.src,.i n.dst,.list (n.on.map encL)],.vars [.i y.ty,.i y.num]];have yr:H0.length≤(G++[AObj.vars [.i n.src,.i n.dst,.list (n.on.map encL)],AObj.vars [.i y.ty,.i y.num]]).length:=by have:=Qi y3;omega
    have i1:=hI _ _ y2;have yt:=zb (I3 a b (p,q) i++Z0 b q m j) (y,(m.dst,n.dst)) (r1++r2) _ (by rw[yq,zm];simp) y2 yr;generalize G++[AObj.vars [.i n.src,.i n.dst,.list (n.on.map encL)],AObj.vars [.i y.ty,.i y.num]]=Y at *;refine O6 rfl rfl (q:=l) rfl rfl i1 y4 y5 rfl (fun jm K2=>(jm=none∧Inv (I3 a b (p,q) i++Z0 b q m j++[(y,(m.dst,n.dst))]) (K2.set l (.lp true none z8 sl' ps asg body))∧∀i cs,H0.length≤i→Y[i]? =some (.vars cs)→(K2.set l (.lp true none z8 sl' ps asg body))[i]? =some (.vars cs))∨∃c,jm=some c∧Done c (K2.set l (.lp false (some c) z8 sl' ps asg body))) ?_ ?_
    ·exact yt
    ·rintro jm K2 (⟨rfl,hK,yu⟩|⟨c,rfl,hD⟩)
     ·simp;repeat first|(refine r_ ?_;simp)|refine q_ ?_
      refine Qa rfl (fun h=>by cases h) (fun _=> ?_);repeat first|(refine r_ ?_;simp[y0])|refine q_ ?_
      refine Qc (sl':=[(0,.yld l),(1,.iptr [.i a.types,.list (a.fin.map .bool),.list (a.mv.map encMv),.list (Rv a)]),(2,.iptr [.i p]),(3,.iptr [.i b.types,.list (b.fin.map .bool),.list (b.mv.map encMv),.list (Rv b)]),(4,.iptr [.i q]),(7,.vptr x 0),(16,.list ((Wa a p).map encMv)),(17,.i (Wa a p).length),(18,.i i),(26,.list ((Wa b q).map encMv)),(27,.i (Wa b q).length),(28,.i (j+1:Nat))]) ?_ (by simp);exact z6 _ ⟨by omega,by rw[←wd];exact hK,yu x _ zw y3⟩ (by omega)
     ·simp;repeat first|(refine r_ ?_;simp)|refine q_ ?_
      refine Qa rfl (fun _=> ?_) (fun h=>by cases h);repeat first|(refine r_ ?_;simp)|refine q_ ?_
      exact .inr ⟨c,hD⟩
  ·have zj:j=(Wa b q).length:=by simp at zt;omega
   subst zj;repeat first|(refine r_ ?_;simp[hw])|refine q_ ?_
   refine Qc (sl':=[(0,.yld l),(1,.iptr [.i a.types,.list (a.fin.map .bool),.list (a.mv.map encMv),.list (Rv a)]),(2,.iptr [.i p]),(3,.iptr [.i b.types,.list (b.fin.map .bool),.list (b.mv.map encMv),.list (Rv b)]),(4,.iptr [.i q]),(16,.list ((Wa a p).map encMv)),(17,.i (Wa a p).length),(18,.i (i+1:Nat))]) ?_ (by simp);exact zz G ⟨by omega,gv,by have:=Qi gx;omega⟩ (by omega)
 ·have zv:i=(Wa a p).length:=by simp at yh;omega
  subst zv;rw[zp]at hv;repeat first|(refine r_ ?_;simp)|refine q_ ?_
  exact .inl hv
end Go.Abs
namespace Go.Abs
open Go Go.Proofs Go.Maps Go.RowKit
theorem Mm:(Tryz.prog).underlying 135=some (.array 2 3):=by kernel_rfl
theorem j1u:(Tryz.prog).underlying 3=some (.int .i64):=by kernel_rfl
theorem q0m:(Tryz.prog).cellsOf 135=2:=by kernel_rfl
theorem c0l:(Tryz.prog).cellsOf 3=1:=by kernel_rfl
theorem u1l:(Tryz.prog).keyType 135=true:=by kernel_rfl
theorem g0o:laidOutB Tryz.prog=true:=by kernel_rfl
theorem u12:(Tryz.prog).keyTypeAt 3 135=true:=by kernel_rfl
theorem x16:135<(Tryz.prog).types.size:=of_decide_eq_true (by kernel_rfl)
theorem K1:Keyed Tryz.prog 135:=Keyed.of_law (deep_law_laid g0o (m:=3) (by decide) x16 u12 (by rw[Mm]))
def kyP(s:Int×Int):AV:= .agg [.i s.1,.i s.2]
def okK(s:Int×Int):Prop:=(0≤s.1∧s.1≤1000000)∧(0≤s.2∧s.2≤1000000)
theorem Bg{s t:Int×Int}(h:kyP s=kyP t):s=t:=by unfold kyP at h;simp at h;exact Prod.ext h.1 h.2
theorem keyLits_int(d:Nat){z:Int}(h:0≤z∧z≤1000000):(Tryz.prog).keyLits (d+1) 3 [.int .i64 z]=some [.int .i64 z]:=by unfold Program.keyLits;rw[j1u];simp[v1h h]
theorem x05(d:Nat){s:Int×Int}(h:okK s):(Tryz.prog).keyLits (d+2) 135 [.int .i64 s.1,.int .i64 s.2]=some [.int .i64 s.1,.int .i64 s.2]:=by unfold Program.keyLits;rw[Mm];simp only[q0m,c0l,yY,tU,if_true];have h1:=keyLits_int d h.1;have h2:=keyLits_int d h.2;simp[wQ,h1,h2]
theorem types_size:∃d,(Tryz.prog).types.size+1=d+2:=⟨(Tryz.prog).types.size - 1,by have:=x16;omega⟩
theorem D8{s:Int×Int}(h:okK s):isKey Tryz.prog 135 (kyP s):=by
 refine⟨.agg #[.int .i64 s.1,.int .i64 s.2],.string (keyBytes [.int .i64 s.1,.int .i64 s.2]),rfl,?_⟩;obtain⟨d,hd⟩:=types_size;unfold keyOf;rw[Mm];simp only;have hf:Value.formed Tryz.prog 135 (.agg #[.int .i64 s.1,.int .i64 s.2])=true:=by unfold Value.formed;rw[Mm,q0m];rfl
 rw[u1l,hf,hd];have:(Value.agg #[.int .i64 s.1,.int .i64 s.2]).cells.toList=[.int .i64 s.1,.int .i64 s.2]:=rfl;rw[this,x05 d h];rfl
abbrev Ij:=List ((Int×Int)×Nat)
def kvN(near:Ij):List (AV×AV):=near.map fun e=>(kyP e.1,.i e.2)
def mpN(near:Ij):AObj:= .mp (kvN near)
structure NK (near:Ij):Prop where
 nd:(near.map (·.1)).Nodup
 ok:∀e∈near,okK e.1
theorem u03{near:Ij}(h:NK near){j:Nat}{e:(Int×Int)×Nat}(he:near[j]? =some e):lkN near e.1=some e.2:=by
 unfold lkN;cases hf:near.find? (fun e'=>decide (e'.1=e.1))with
 |none=>rw[List.find?_eq_none]at hf;have:=hf e (zO he);simp at this
 |some e'=>
  have h1:e'.1=e.1:=by simpa using List.find?_some hf
  have h2:=List.mem_of_find?_eq_some hf;obtain⟨i,hi,rfl⟩:=List.getElem_of_mem h2;obtain⟨hj,rfl⟩:=List.getElem?_eq_some_iff.1 he;have h3:i=j:=by have:=(List.getElem_inj (h₀:=by simpa using hi) (h₁:=by simpa using hj) h.nd).1 (by simpa using h1);exact this
  subst h3;rfl
theorem B6{near:Ij}(h:NK near):∀p∈kvN near,isKey Tryz.prog 135 p.1:=fun p hp=>by obtain⟨e,he,rfl⟩:=zX.1 hp;exact D8 (h.ok e he)
section
variable {nt k:Nat} {S:AS} {ops:Array Oper} {o:Oper} {R:AS→Prop}
theorem Yj {wr:Bool} (hw:Q5 ops S o=some true) (hd:W3 nt o=true) {x ix:Operand} (ho:o.op= .lookup 132 x ix true) {id:Nat} (hx:rho S.sl x=some (.mref id)) {s:Int×Int} (z1:rho S.sl ix=some (.agg [.i s.1,.i s.2])) {near:Ij} (z6:S.hp[id]? =some (mpN near)) (hn:NK near) (hs:okK s)
  (hR:R (S.putD o.dst (.tup [.i ((lkN near s).getD 0:Nat),.bool (lkN near s).isSome]))):Wt Tryz.prog nt k wr ops o S R:=by
 refine Yy tOk hw hd ho w2a rfl T3 K1 hx z1 z6 (D8 hs) (B6 hn) (z:= .i 0) rfl (fun j p hp he=> ?_) (fun z7=> ?_)
 ·unfold kvN at hp;rw[yI]at hp;obtain⟨e,z8,rfl⟩:=zZ.1 hp;have za:e.1=s:=Bg he;rw[←za,u03 hn z8]at hR;exact hR
 ·have:lkN near s=none:=by rw[D9];intro hm;obtain⟨e,he,rfl⟩:=zX.1 hm;exact z7 _ (zX.2 ⟨e,he,rfl⟩) rfl
  rw[this]at hR;exact hR
theorem Cs {wr:Bool} (hw:Q5 ops S o=some true) (hd:W3 nt o=true) {x ix:Operand} (ho:o.op= .lookup 132 x ix false) {id:Nat} (hx:rho S.sl x=some (.mref id)) {s:Int×Int} (z1:rho S.sl ix=some (.agg [.i s.1,.i s.2])) {near:Ij} (z6:S.hp[id]? =some (mpN near)) (hn:NK near) (hs:okK s)
  (hR:R (S.putD o.dst (.i ((lkN near s).getD 0:Nat)))):Wt Tryz.prog nt k wr ops o S R:=by
 refine Vz tOk hw hd ho w2a rfl T3 K1 hx z1 z6 (D8 hs) (B6 hn) (z:= .i 0) rfl (fun j p hp he=> ?_) (fun z7=> ?_)
 ·unfold kvN at hp;rw[yI]at hp;obtain⟨e,z8,rfl⟩:=zZ.1 hp;have za:e.1=s:=Bg he;rw[←za,u03 hn z8]at hR;exact hR
 ·have:lkN near s=none:=by rw[D9];intro hm;obtain⟨e,he,rfl⟩:=zX.1 hm;exact z7 _ (zX.2 ⟨e,he,rfl⟩) rfl
  rw[this]at hR;exact hR
theorem z09 (hw:Q5 ops S o=some true) (hd:W3 nt o=true) {x ix y:Operand} (ho:o.op= .mapUpdate 132 x ix y) {id:Nat} (hx:rho S.sl x=some (.mref id)) {s:Int×Int} (z1:rho S.sl ix=some (.agg [.i s.1,.i s.2])) {d:Nat} (hy:rho S.sl y=some (.i d)) {near:Ij} (z6:S.hp[id]? =some (mpN near)) (hn:NK near) (hs:okK s)
  (z7:s∉near.map (·.1)) (hR:R (({ S with hp:=S.hp.set id (mpN (near++[(s,d)])) }:AS).putD o.dst (.tup []))):Wt Tryz.prog nt k true ops o S R:=by
 refine Ym tOk hw hd ho w2a rfl K1 hx z1 hy (by simp[AV.pure]) z6 (D8 hs) (B6 hn) (fun j p hp he=> ?_) (fun zb=> ?_)
 ·unfold kvN at hp;rw[yI]at hp;obtain⟨e,z8,rfl⟩:=zZ.1 hp;have za:e.1=s:=Bg he;exact absurd (zX.2 ⟨e,zO z8,za⟩) z7
 ·have:kvN near++[(kyP s,.i d)]=kvN (near++[(s,d)]):=by simp[kvN]
  unfold mpN at hR;rw[←this]at hR;exact hR
end
end Go.Abs
namespace Go.Abs
open Go Go.Proofs Go.Maps Go.RowKit
theorem g0u{a b:Aut}{i j:Nat}(hi:i<a.fin.length)(hj:j<b.fin.length):Tt a b ((i:Int),(j:Int))=(a.fin[i] != b.fin[j]):=by unfold Tt;simp[List.getD,hi,hj]
theorem Fa{a b:Aut}(ha:OkA a)(hb:OkA b){s:Int×Int}{e:Sy×(Int×Int)}(he:e∈Wj a b s):inS a e.2.1∧inS b e.2.2:=by obtain⟨m,hm,n,hn,_,rfl⟩:=Ue.1 he;have h1:=(ha.mv m (Wu.1 hm).1).dst;have h2:=(hb.mv n (Wu.1 hn).1).dst;exact⟨⟨h1.1,h1.2⟩,⟨h2.1,h2.2⟩⟩
theorem Dk{a b:Aut}(ha:OkA a)(hb:OkA b){s:Int×Int}(h:inS a s.1∧inS b s.2):okK s:=by have h1:=ha.fin;have h2:=hb.fin;obtain⟨⟨_,_⟩,⟨_,_⟩⟩:=h;unfold okK;omega
attribute [local irreducible] Wa Ei Rv Wj Tt lkN
theorem y1z(a:Aut)(ha:OkA a)(H:List AObj)(A:Nat)(hA:H[A]? =some (.vars (Q1 a)))(p q:Int)(hp:inS a p)(hq:inS a q):
  FC Tryz.prog 146 [.i p,.i q,.vptr A 0] H (fun r H'=>r= .bool (Tt a a (p,q))∧H'=H):=by
 refine W9 tOk Tryz.func146 rfl Tryz.results146 rfl (by simp[Tryz.ntmps146]) ?_;rw[Tryz.ntmps146];simp only[Qg];obtain⟨i,rfl⟩:∃i:Nat,p=i:=⟨p.toNat,(Fm hp).2.symm⟩
 obtain⟨j,rfl⟩:∃j:Nat,q=j:=⟨q.toNat,(Fm hq).2.symm⟩
 have hi:i<a.fin.length:=by have:=hp.2;omega
 have hj:j<a.fin.length:=by have:=hq.2;omega
 rw[g0u hi hj];simp only[Q1]at hA;repeat first|(refine r_ ?_;simp)|refine q_ ?_
 refine Qk tOk mixed [] (.val 0 (.val 1 (.val 2 (.val 3 (.val 4 (.val 5 (.val 6 (.val 7 (.val 8 (.val 9 (.val 10 (.val 11 (.val 12 (.val 13 (.done))))))))))))))) rfl (by kernel_rfl) ?_;simp[hA,hi,hj];repeat first|(refine r_ ?_;simp)|refine q_ ?_
 generalize a.fin[i]=x;generalize a.fin[j]=y;cases x<;>cases y<;>rfl
def Zz(near:Ij)(d:Int)(es:List (Sy×(Int×Int))):Bool:=es.any fun e=>(lkN near e.2).isSome && decide (((lkN near e.2).getD 0:Nat)=d)
theorem c0e(near:Ij)(d:Int)(pre:List (Sy×(Int×Int)))(e:Sy×(Int×Int)):Zz near d (pre++[e])=(Zz near d pre || ((lkN near e.2).isSome && decide (((lkN near e.2).getD 0:Nat)=d))):=by simp[Zz]
theorem u04{near:Ij}{d:Int}{pre post:List (Sy×(Int×Int))}{e:Sy×(Int×Int)}(h:((lkN near e.2).isSome && decide (((lkN near e.2).getD 0:Nat)=d))=true):Zz near d (pre++e::post)=true:=by unfold Zz;rw[List.any_append,List.any_cons,h];simp
theorem y17(near:Ij)(d:Int):Zz near d []=false:=rfl
attribute [local irreducible] Zz
theorem c07(a:Aut)(ha:OkA a)(H:List AObj)(A N M D:Nat)(near:Ij)(d:Nat)(hA:H[A]? =some (.vars (Q1 a)))(hN:H[N]? =some (.vars [.mref M]))(hM:H[M]? =some (mpN near))(hD:H[D]? =some (.vars [.i d]))(hd:1≤d∧d≤1000000)(zd:NK near)(p q:Int)(hp:inS a p)(hq:inS a q):
  FC Tryz.prog 147 [.i p,.i q,.vptr A 0,.vptr N 0,.vptr D 0] H (fun r H'=>r= .bool (Zz near ((d:Int) - 1) (Wj a a (p,q)))∧∀i,i<H.length→H'[i]? =H[i]?):=by
 refine W9 tOk Tryz.func147 rfl Tryz.results147 rfl (by simp[Tryz.ntmps147]) ?_;rw[Tryz.ntmps147];simp only[Qg];have zb:=hA;simp only[Q1]at zb;have zn:=Qi hA;have ze:=Qi hN;have zf:=Qi hM;have zg:=Qi hD;have zh:∀L,(H++L)[A]? =some (.vars [.i a.types,.list (a.fin.map .bool),.list (a.mv.map encMv),.list (Rv a)]):=fun L=>Qb zb L;repeat first|(refine r_ ?_;simp[zh])|refine q_ ?_
 refine Qe rfl rfl (by simp) (Zo a a p q) rfl ?_;rintro _ rfl;simp;repeat first|(refine r_ ?_;simp)|refine q_ ?_
 refine Rg rfl (Rf:=fun _ H'=>(Zz near ((d:Int) - 1) (Wj a a (p,q))=false∧(∃sl' z1 a' b',H'[H.length+1]? =some (.lp true none 34 sl' z1 a' b'))∧H'[H.length]? =some (.vars [.bool false])∧∀i,i<H.length→H'[i]? =H[i]?)∨
  (Zz near ((d:Int) - 1) (Wj a a (p,q))=true∧(∃sl' z1 a' b',H'[H.length+1]? =some (.lp false (some .ret) 34 sl' z1 a' b'))∧H'[H.length]? =some (.vars [.bool true])∧∀i,i<H.length→H'[i]? =H[i]?)) ?_ ?_
 ·simp;refine Jh fun H1 z6=> ?_;have f0:H1[H.length]? =some (.vars [.bool false]):=by rw[z6,zL (by omega)];simp
  have fk:∀i,i<H.length→H1[i]? =H[i]? :=fun i hi=>by rw[z6,zI hi]
  have fl:=congrArg (fun h:List AObj=>h[H.length+1]?) z6;have zo:H1.length=H.length+2:=by rw[z6];simp
  simp at fl;clear z6;refine FC.mono (Fv a a ha ha rfl p q hp hq (H.length+1) (by rfl) (by rfl)
   (fun pre H'=>Zz near ((d:Int) - 1) pre=false∧H'[H.length+1]? =H1[H.length+1]? ∧H'[H.length]? =some (.vars [.bool false])∧∀i,i<H.length→H'[i]? =H[i]?)
   (fun c H'=>c= .ret∧Zz near ((d:Int) - 1) (Wj a a (p,q))=true∧(∃sl' z1 a' b',H'[H.length+1]? =some (.lp false (some .ret) 34 sl' z1 a' b'))∧H'[H.length]? =some (.vars [.bool true])∧∀i,i<H.length→H'[i]? =H[i]?) H1
   (fun k H' ⟨_,h2,_,_⟩=>h2.trans fl) ?_ ?_ ⟨y17 _ _,rfl,f0,fk⟩) ?_
  ·rintro k H' L ⟨h1,h2,h3,h4⟩;exact⟨h1,by rw[←h2,zI (by rw[fl]at h2;exact Qi h2)],Qb h3 _,fun i hi=>by rw[zI (by have:=Qi h3;omega)];exact h4 i hi⟩
  ·rintro pre e post H' zc ⟨h1,h2,h3,h4⟩ hlen;simp[Tq];have zi:=Fa ha ha (show e∈Wj a a (p,q) by rw[zc];simp);have zj:=Dk ha ha zi;have zp:=Qi (h2.trans fl);have z7:=c0e near ((d:Int) - 1) pre e;have z8:=fun h=>u04 (near:=near) (d:=(d:Int) - 1) (pre:=pre) (post:=post) (e:=e) h;rw[←zc]at z8;rw[h1,Bool.false_or]at z7;have zz:=Qh (h2.trans fl) .dead;have z0:(H'.set (H.length+1) .dead)[H.length]? =some (.vars [.bool false]):=Qd (by omega) h3 _;have zk:∀i,i<H.length→(H'.set (H.length+1) .dead)[i]? =H[i]? :=fun i hi=>by rw[zH (by omega)];exact h4 i hi
   have zv:∀i cs,H1.length≤i→H'[i]? =some (.vars cs)→(H'.set (H.length+1) .dead)[i]? =some (.vars cs):=fun i cs hi hc=>by rw[zH (by omega)];exact hc
   have zl:(H'.set (H.length+1) .dead).length=H'.length:=by simp
   rw[←zl];generalize H'.set (H.length+1) .dead=Z at *
   have zN:=(zk N ze).trans hN;have zM:=(zk M zf).trans hM;have zD:=(zk D zg).trans hD;have zNA:∀L,(Z++L)[N]? =some (.vars [.mref M]):=fun L=>Qb zN L;have zMA:∀L,(Z++L)[M]? =some (mpN near):=fun L=>Qb zM L;have zDA:∀L,(Z++L)[D]? =some (.vars [.i d]):=fun L=>Qb zD L;have z0A:∀L,(Z++L)[H.length]? =some (.vars [.bool false]):=fun L=>Qb z0 L;have z0H:∀L hh,(Z++L)[H.length]'hh= .vars [.bool false]:=fun L hh=>(yJ hh).2 (z0A L);have zm:IntKind.i64.wrap ((d:Int) - 1)=d - 1:=wrap_i64 _ (by omega) (by omega);simp only[w1t];repeat first|(refine r_ ?_;simp[zNA,zDA])|refine q_ ?_
   refine Yj rfl rfl rfl rfl (s:=e.2) rfl (near:=near) (zMA _) zd zj ?_;simp;generalize lkN near e.2=lk at *
   cases lk with
   |none=>
    simp at z7;repeat first|(refine r_ ?_;simp[zDA])|refine q_ ?_
    refine Qa rfl (fun h=>by simp at h) (fun _=> ?_);repeat first|(refine r_ ?_;simp)|refine q_ ?_
    refine⟨Qb zz _,.inl ⟨rfl,⟨z7,?_,?_,fun i hi=> ?_⟩,fun i cs hi hc=> ?_⟩⟩
    ·rw[fl];exact Qh (Qb zz _) _
    ·exact z0A _
    ·rw[zH (by omega),zI (by omega)];exact zk i hi
    ·exact Qd (j:=H.length+1) (by omega) (Qb (zv i cs hi hc) _) _
   |some kd=>
    simp at z7 z8;repeat first|(refine r_ ?_;simp[zDA,zm])|refine q_ ?_
    refine Qa rfl (fun h=> ?_) (fun h=> ?_)
    ·have za:(kd:Int)=d - 1:=by simpa using h
     repeat first|(refine r_ ?_;simp[z0A,z0H])|refine q_ ?_
     refine⟨Qd (j:=H.length) (by omega) (Qb zz _) _,.inr ⟨.ret,rfl,rfl,z8 za,?_,?_,fun i hi=> ?_⟩⟩
     ·exact⟨_,_,_,_,Qh (Qd (j:=H.length) (by omega) (Qb zz _) _) _⟩
     ·exact Qh (z0A _) _
     ·rw[zH (by omega),zH (by omega),zI (by omega)];exact zk i hi
    ·have za:¬(kd:Int)=d - 1:=by simpa using h
     repeat first|(refine r_ ?_;simp)|refine q_ ?_
     refine⟨Qb zz _,.inl ⟨rfl,⟨by rw[z7,decide_eq_false za],?_,?_,fun i hi=> ?_⟩,fun i cs hi hc=> ?_⟩⟩
     ·rw[fl];exact Qh (Qb zz _) _
     ·exact z0A _
     ·rw[zH (by omega),zI (by omega)];exact zk i hi
     ·exact Qd (j:=H.length+1) (by omega) (Qb (zv i cs hi hc) _) _
  ·rintro _ H' (⟨h1,h2,h3,h4⟩|⟨c,rfl,h1,h2,h3,h4⟩)
   ·exact .inl ⟨h1,⟨_,_,_,_,h2.trans fl⟩,h3,h4⟩
   ·exact .inr ⟨h1,h2,h3,h4⟩
 ·rintro _ H' (⟨h1,⟨sl',z1,a',b',h2⟩,h3,h4⟩|⟨h1,⟨sl',z1,a',b',h2⟩,h3,h4⟩)
  ·refine⟨true,none,34,sl',z1,a',b',by simpa using h2,?_⟩;simp;have z0:=Qd (j:=H.length+1) (by omega) h3 .dead;have z0H:∀hh,(H'.set (H.length+1) .dead)[H.length]'hh= .vars [.bool false]:=fun hh=>(yJ hh).2 z0;rw[h1];have zk:∀i,i<H.length→(H'.set (H.length+1) .dead)[i]? =H[i]? :=fun i hi=>by rw[zH (by omega)];exact h4 i hi
   generalize H'.set (H.length+1) .dead=Z at *
   repeat first|(refine r_ ?_;simp[z0,z0H,Qh z0])|refine q_ ?_
   exact fun i hi=>by rw[zH (by omega)];exact zk i hi
  ·refine⟨false,some .ret,34,sl',z1,a',b',by simpa using h2,?_⟩;simp;have z0:=Qd (j:=H.length+1) (by omega) h3 .dead;rw[h1];have zk:∀i,i<H.length→(H'.set (H.length+1) .dead)[i]? =H[i]? :=fun i hi=>by rw[zH (by omega)];exact h4 i hi
   generalize H'.set (H.length+1) .dead=Z at *
   repeat first|(refine r_ ?_;simp[z0])|refine q_ ?_
   exact zk
end Go.Abs
namespace Go.Abs
open Go Go.Proofs Go.Maps Go.RowKit
theorem u1s{G K:List AObj}(h:∀i,i<G.length→K[i]? =G[i]?):∃E,K=G++E:=by
 refine⟨K.drop G.length,?_⟩;have hl:G.length≤K.length:=by
  by_cases h0:G.length=0
  ·omega
  ·have:=h (G.length - 1) (by omega);have h2:G[G.length - 1]? =some (G[G.length - 1]'(by omega)):=zP (by omega);rw[h2]at this;have:=Qi this;omega
 refine xW fun i=> ?_;by_cases hi:i<G.length
 ·rw[zI hi];exact h i hi
 ·rw[zL (by omega),List.getElem?_drop]
  congr 1;omega
def fdR(n:Nat)(g:Int×Int→Bool)(i:Nat):List (Int×Int):=((yV i).flatMap fun x:Nat=>(yV n).map fun y:Nat=>((x:Int),(y:Int))).filter g
def fdC(g:Int×Int→Bool)(i j:Nat):List (Int×Int):=((yV j).map fun y:Nat=>((i:Int),(y:Int))).filter g
theorem q0r(n:Nat)(g:Int×Int→Bool):fdR n g 0=[]:=by simp[fdR]
theorem Mn(g:Int×Int→Bool)(i:Nat):fdC g i 0=[]:=by simp[fdC]
theorem q1i(n:Nat)(g:Int×Int→Bool)(i:Nat):fdR n g (i+1)=fdR n g i++fdC g i n:=by unfold fdR fdC;rw[wQ,ww,ui];simp
theorem w10(g:Int×Int→Bool)(i j:Nat):fdC g i (j+1)=fdC g i j++(if g ((i:Int),(j:Int))=true then [((i:Int),(j:Int))]else []):=by
 unfold fdC;rw[wQ,yX,ui]
 congr 1
 rw[xH,List.map_nil,ux,tT]
theorem q2c(a:Aut)(g:Int×Int→Bool):fdR a.fin.length g a.fin.length=(O5 a a).filter g:=by
 unfold fdR O5 Rt
 congr 1
 rw[List.flatMap_map];simp[v_,Function.comp_def]
theorem Xc(n:Nat):∀i:Nat,((yV i).map fun _:Nat=>n).sum=i * n
 |0=>by simp
 |i+1=>by rw[wQ,yX,List.sum_append,Xc n i];simp[Nat.succ_mul]
theorem c1m(n:Nat)(g:Int×Int→Bool)(i j:Nat)(hi:i≤n)(hj:j≤n):(fdR n g i++fdC g i j).length≤n * n+n:=by
 rw[yL];have h1:(fdR n g i).length≤i * n:=by
  unfold fdR;refine yW (xX _ _) ?_;rw[List.length_flatMap];have:((yV i).map fun x:Nat=>((yV n).map fun y:Nat=>((x:Int),(y:Int))).length).sum=i * n:=by simpa using Xc n i
  omega
 have h2:(fdC g i j).length≤j:=by unfold fdC;refine yW (xX _ _) ?_;simp
 have:=yK n hi;omega
def Dy(a:Aut)(near:Ij)(pf:Int×Int→Bool)(s:Int×Int):Bool:=(lkN near s).isNone && pf s
def Zx(a:Aut)(near:Ij)(pf:Int×Int→Bool):List (Int×Int):=(O5 a a).filter (Dy a near pf)
theorem Lg{a:Aut}{near:Ij}{pf:Int×Int→Bool}{s:Int×Int}(h:s∈Zx a near pf):inP a s∧s∉near.map (·.1):=by obtain⟨h1,h2⟩:=List.mem_filter.1 h;refine⟨d01 h1,D9.1 ?_⟩;unfold Dy at h2;simp only[Bool.and_eq_true,Option.isNone_iff_eq_none]at h2;exact h2.1
theorem j01(a:Aut)(near:Ij)(pf:Int×Int→Bool):(Zx a near pf).Nodup:=(Ji a).filter _
theorem NK.round{a:Aut}(ha:OkA a){near:Ij}(h:NK near)(pf:Int×Int→Bool)(d:Nat){l r:List (Int×Int)}(he:Zx a near pf=l++r):NK (near++l.map fun s=>(s,d)):=by
 have hl:∀s∈l,s∈Zx a near pf:=fun s hs=>by rw[he];simp[hs]
 refine⟨?_,fun e hm=> ?_⟩
 ·rw[yX,vT];refine⟨h.nd,?_,fun x hx y hy e=> ?_⟩
  ·have:=j01 a near pf;rw[he,vT]at this;simpa[Function.comp_def]using this.1
  ·simp only[v_,Function.comp_def,se]at hy;subst e;exact(Lg (hl _ hy)).2 hx
 ·rcases yH.1 hm with hm|hm
  ·exact h.ok e hm
  ·obtain⟨s,hs,rfl⟩:=zX.1 hm;exact Dk ha ha (Lg (hl s hs)).1
attribute [local irreducible] lkN Dy fdR fdC
theorem w03 (a:Aut) (ha:OkA a) (H:List AObj) (nC N M:Nat) (near:Ij) (d:Nat) (pf:Int×Int→Bool) (f:FuncId) (cs:List AV) (hn:H[nC]? =some (.vars [.i a.fin.length])) (hN:H[N]? =some (.vars [.mref M])) (hM:H[M]? =some (mpN near)) (zv:NK near)
  (zf:∀(p q:Int) (H':List AObj),inS a p→inS a q→(∀i,i<H.length→H'[i]? =H[i]?)→FC Tryz.prog f ([]++[.i p,.i q]++cs) H' (fun r K=>r= .bool (pf (p,q))∧∀i,i<H'.length→K[i]? =H'[i]?)):
  FC Tryz.prog 145 [.i d,.fn (.func f) [] cs,.vptr nC 0,.vptr N 0] H (fun r H'=>r= .bool (decide (0<(Zx a near pf).length))∧H'[M]? =some (mpN (near++(Zx a near pf).map fun s=>(s,d)))∧∀i,i<H.length→i≠M→H'[i]? =H[i]?):=by
 refine W9 tOk Tryz.func145 rfl Tryz.results145 rfl (by simp[Tryz.ntmps145]) ?_;rw[Tryz.ntmps145];simp only[Qg];have za:=ha.fin;have ym:=Qi hn;have y7:=Qi hN;have y8:=Qi hM;have y9:=q2c a (Dy a near pf);have ya:=c1m a.fin.length (Dy a near pf);have yb:a.fin.length * a.fin.length≤65536:=yW (sa za.2 za.2) (by decide);repeat first|(refine r_ ?_;simp[hn])|refine q_ ?_
 refine Q6 7 135 2 rfl ?_;simp;have yc:=SL.start H 135 2;refine Qo (Qc (sl':=[(0,.i d),(1,.fn (.func f) [] cs),(2,.vptr nC 0),(3,.vptr N 0),(6,.bool false),(7,.sl H.length 2 0 (fdR a.fin.length (Dy a near pf) 0).length),(14,.i a.fin.length),(15,.i (0:Nat))]) ?_ (by simp[q0r]));refine Qp (F:=fun(u:Nat×Nat×List AObj)=>⟨[(0,.i d),(1,.fn (.func f) [] cs),(2,.vptr nC 0),(3,.vptr N 0),(6,.bool false),(7,.sl u.2.1 2 0 (fdR a.fin.length (Dy a near pf) u.1).length),(14,.i a.fin.length),(15,.i u.1)],u.2.2⟩)
  (fun u=>u.1≤a.fin.length∧SL H u.2.2 u.2.1 135 2 ((fdR a.fin.length (Dy a near pf) u.1).map kyP)) (fun u=>a.fin.length - u.1) ?_ (0,H.length,_) ⟨wD _,by rw[q0r];exact yc⟩
 rintro⟨i,q,G⟩ ⟨hi,hs⟩ ih;simp only at hi hs ih ⊢;repeat first|(refine r_ ?_;simp)|refine q_ ?_
 refine Qa rfl (fun yd=> ?_) (fun ye=> ?_)
 ·have yf:i<a.fin.length:=by simpa using yd
  have hw:IntKind.i64.wrap ((i:Int)+1)=i+1:=wrap_i64 _ (by omega) (by omega);have zw:=fun q' G'=>ih (i+1,q',G');simp only[q1i]at zw;have gn:=hs.kp hn;repeat first|(refine r_ ?_;simp[gn])|refine q_ ?_
  refine Qo (Qc (sl':=[(0,.i d),(1,.fn (.func f) [] cs),(2,.vptr nC 0),(3,.vptr N 0),(6,.bool false),(7,.sl q 2 0 (fdR a.fin.length (Dy a near pf) i++fdC (Dy a near pf) i 0).length),(8,.i i),(14,.i a.fin.length),(15,.i i),(18,.i a.fin.length),(19,.i (0:Nat))]) ?_ (by simp[Mn]));refine Qp (F:=fun(u:Nat×Nat×List AObj)=>⟨[(0,.i d),(1,.fn (.func f) [] cs),(2,.vptr nC 0),(3,.vptr N 0),(6,.bool false),(7,.sl u.2.1 2 0 (fdR a.fin.length (Dy a near pf) i++fdC (Dy a near pf) i u.1).length),(8,.i i),(14,.i a.fin.length),(15,.i i),(18,.i a.fin.length),(19,.i u.1)],u.2.2⟩)
   (fun u=>u.1≤a.fin.length∧SL H u.2.2 u.2.1 135 2 ((fdR a.fin.length (Dy a near pf) i++fdC (Dy a near pf) i u.1).map kyP)) (fun u=>a.fin.length - u.1) ?_ (0,q,G) ⟨wD _,by rw[Mn,xO];exact hs⟩
  clear hs gn;clear G q;rintro⟨j,q,G⟩ ⟨hj,hs⟩ ih2;simp only at hj hs ih2 ⊢;repeat first|(refine r_ ?_;simp)|refine q_ ?_
  refine Qa rfl (fun zg=> ?_) (fun zh=> ?_)
  ·have zx:j<a.fin.length:=by simpa using zg
   have zi:IntKind.i64.wrap ((j:Int)+1)=j+1:=wrap_i64 _ (by omega) (by omega);have z1:=fun q' G'=>ih2 (j+1,q',G');simp only[w10]at z1;have gN:=hs.kp hN;have gM:=hs.kp hM;have zy:inS a (i:Int):=⟨by omega,by omega⟩
   have zz:inS a (j:Int):=⟨by omega,by omega⟩
   have zj:okK ((i:Int),(j:Int)):=Dk ha ha ⟨zy,zz⟩;have yn:=ya i j hi hj;have yg:=hs.le;have zk:∀x,x<H.length→G[x]? =H[x]? :=fun x hx=>by have h1:H[x]? =some H[x]:=zP hx;rw[h1];exact hs.kp h1
   have z7:Dy a near pf ((i:Int),(j:Int))=((lkN near ((i:Int),(j:Int))).isNone && pf ((i:Int),(j:Int))):=by unfold Dy;rfl
   repeat first|(refine r_ ?_;simp[gN])|refine q_ ?_
   refine Yj rfl rfl rfl rfl (s:=((i:Int),(j:Int))) rfl (near:=near) gM zv zj ?_;simp;generalize hL:fdR a.fin.length (Dy a near pf) i++fdC (Dy a near pf) i j=L at *;simp only[←wd,hL]at z1
   have zb:(fdR a.fin.length (Dy a near pf) i).length+(fdC (Dy a near pf) i j).length=L.length:=by rw[←hL,yL]
   cases hlk:lkN near ((i:Int),(j:Int))with
   |some kd=>
    rw[hlk]at z7;simp at z7;simp only[z7,uI,if_false,xO]at z1;repeat first|(refine r_ ?_;simp)|refine q_ ?_
    refine Q4 rfl rfl ?_;simp;refine Qm rfl ?_;repeat first|(refine r_ ?_;simp[zi])|refine q_ ?_
    refine Qc (sl':=[(0,.i d),(1,.fn (.func f) [] cs),(2,.vptr nC 0),(3,.vptr N 0),(6,.bool false),(7,.sl q 2 0 L.length),(8,.i i),(14,.i a.fin.length),(15,.i i),(18,.i a.fin.length),(19,.i (j+1:Nat))]) ?_ (by simp[zb]);exact z1 q G ⟨by omega,hs⟩ (by omega)
   |none=>
    rw[hlk]at z7;simp at z7;repeat first|(refine r_ ?_;simp)|refine q_ ?_
    refine Q8 rfl rfl (zf i j G zy zz zk) rfl ?_;rintro _ K ⟨rfl,hK⟩;obtain⟨E,rfl⟩:=u1s hK;have z8:=hs.add E;generalize G++E=G2 at *
    simp;cases hpf:pf ((i:Int),(j:Int))with
    |true=>
     rw[hpf]at z7;simp only[z7,if_true]at z1;have y0:(L.map kyP).length=L.length:=by simp
     generalize zl:L.map kyP=acc at *;refine Qm rfl ?_
     repeat first|(refine r_ ?_;simp)|refine q_ ?_
     refine Qf tOk rfl rfl y2x rfl y2u rfl (by decide) (by decide) rfl rfl rfl ?_;simp[Qb z8.arr,Qj z8.arr,y0,zb];refine⟨by simp[Wk,Qb z8.arr,Qj z8.arr,y0,zb]<;>omega,?_⟩;repeat first|(refine r_ ?_;simp[zi])|refine q_ ?_
     refine Qc (sl':=[(0,.i d),(1,.fn (.func f) [] cs),(2,.vptr nC 0),(3,.vptr N 0),(6,.bool false),(7,.sl (G2.length+1) 2 0 (L++[((i:Int),(j:Int))]).length),(8,.i i),(14,.i a.fin.length),(15,.i i),(18,.i a.fin.length),(19,.i (j+1:Nat))]) ?_ (by simp[zb]);refine z1 (G2.length+1) _ ⟨by omega,?_⟩ (by omega);have:=z8.put [AObj.arr 135 2 [kyP ((i:Int),(j:Int))]] (acc++[kyP ((i:Int),(j:Int))]) rfl;rw[show(L++[((i:Int),(j:Int))]).map kyP=acc++[kyP ((i:Int),(j:Int))] by rw[←zl];simp];exact this
    |false=>
     rw[hpf]at z7;simp only[z7,uI,if_false,xO]at z1;refine Qm rfl ?_;repeat first|(refine r_ ?_;simp[zi])|refine q_ ?_
     refine Qc (sl':=[(0,.i d),(1,.fn (.func f) [] cs),(2,.vptr nC 0),(3,.vptr N 0),(6,.bool false),(7,.sl q 2 0 L.length),(8,.i i),(14,.i a.fin.length),(15,.i i),(18,.i a.fin.length),(19,.i (j+1:Nat))]) ?_ (by simp[zb]);exact z1 q G2 ⟨by omega,z8⟩ (by omega)
  ·have zc:j=a.fin.length:=by simp at zh;omega
   subst zc;repeat first|(refine r_ ?_;simp[hw])|refine q_ ?_
   refine Qc (sl':=[(0,.i d),(1,.fn (.func f) [] cs),(2,.vptr nC 0),(3,.vptr N 0),(6,.bool false),(7,.sl q 2 0 (fdR a.fin.length (Dy a near pf) i++fdC (Dy a near pf) i a.fin.length).length),(14,.i a.fin.length),(15,.i (i+1:Nat))]) ?_ (by simp);exact zw q G ⟨by omega,hs⟩ (by omega)
 ·have zm:i=a.fin.length:=by simp at ye;omega
  subst zm;rw[y9]at hs ⊢;have yh:(O5 a a).filter (Dy a near pf)=Zx a near pf:=rfl;rw[yh]at hs ⊢;have yo:(Zx a near pf).length≤65536:=by refine yW (xX _ _) ?_;rw[Pw];exact yb
  have y1:=fun l r h=>zv.round ha pf d (l:=l) (r:=r) h;have y2:=fun s h=>Lg (a:=a) (near:=near) (pf:=pf) (s:=s) h;have zn:=j01 a near pf;generalize Zx a near pf=L at *
  have zk:∀x,x<H.length→G[x]? =H[x]? :=fun x hx=>by have h1:H[x]? =some H[x]:=zP hx;rw[h1];exact hs.kp h1
  have yg:=hs.le;have yp:H.length≤q:=hs.ge;refine Qw (sl':=[(0,.i d),(3,.vptr N 0),(6,.bool false),(7,.sl q 2 0 L.length)]) ?_ (by simp);refine Wl q hs.arr ?_;simp[AV.fz];rw[zV (by simp)];have yk:∀x,x<H.length→(G.set q .dead)[x]? =H[x]? :=fun x hx=>by rw[zH (by omega)];exact zk x hx
  generalize G.set q .dead=Y at *
  repeat first|(refine r_ ?_;simp)|refine q_ ?_
  refine Qo (Qc (sl':=[(0,.i d),(3,.vptr N 0),(6,.bool false),(7,.list (L.map kyP)),(46,.list (L.map kyP)),(47,.i L.length),(48,.i (0:Nat))]) ?_ (by simp));refine Qp (F:=fun(u:Nat×List AObj)=>⟨[(0,.i d),(3,.vptr N 0),(6,.bool false),(7,.list (L.map kyP)),(46,.list (L.map kyP)),(47,.i L.length),(48,.i u.1)],u.2⟩)
   (fun u=>u.1≤L.length∧u.2[M]? =some (mpN (near++(L.take u.1).map fun s=>(s,d)))∧∀i,i<H.length→i≠M→u.2[i]? =H[i]?) (fun u=>L.length - u.1) ?_ (0,Y) ⟨wD _,by simpa using(yk M y8).trans hM,fun i hi _=>yk i hi⟩
  clear yk;clear Y;rintro⟨k,Y⟩ ⟨hk,yM,yk⟩ ih3;simp only at hk yM yk ih3 ⊢;repeat first|(refine r_ ?_;simp)|refine q_ ?_
  refine Qa rfl (fun zo=> ?_) (fun zp=> ?_)
  ·have z6:k<L.length:=by simpa using zo
   have yi:IntKind.i64.wrap ((k:Int)+1)=k+1:=wrap_i64 _ (by omega) (by omega);have yj:N≠M:=fun e=>by rw[e,hM]at hN;simp[mpN]at hN
   have y3:(L.map kyP)[k]? =some (kyP L[k]):=by simp[z6]
   have y4:∀hh,(L.map kyP)[k]'hh=kyP L[k]:=fun hh=>by simp
   have zq:L.take k++L[k]::L.drop (k+1)=L:=by rw[←wR z6,xY]
   have zr:=y1 (L.take k) (L[k]::L.drop (k+1)) zq.symm;have y5:=y2 L[k] (zT z6);have zj:=Dk ha ha y5.1;have zt:L[k]∉(near++(L.take k).map fun s=>(s,d)).map (·.1):=by rw[yX,yH,not_or];refine⟨y5.2,fun h=> ?_⟩;simp only[v_,Function.comp_def,se]at h;rw[←zq,vT]at zn;exact zn.2.2 _ h _ List.mem_cons_self rfl
   have y6:(L.take (k+1)).map (fun s=>(s,d))=(L.take k).map (fun s=>(s,d))++[(L[k],d)]:=by rw[zY z6,yX];rfl
   have zd:=fun G'=>ih3 (k+1,G');simp only[y6,←wd]at zd;generalize L[k]=s at *;clear zq y6 zn y2 y1;generalize near++(L.take k).map (fun s=>(s,d))=nr at *
   have yN:=(yk N y7 yj).trans hN;have yNA:∀E,(Y++E)[N]? =some (.vars [.mref M]):=fun E=>Qb yN E;simp only[kyP]at y3 y4;repeat first|(refine r_ ?_;simp[y3,y4,z6,yNA])|refine q_ ?_
   refine z09 rfl rfl rfl rfl (s:=s) rfl (d:=d) rfl (near:=nr) (Qb yM _) zr zj zt ?_;simp;repeat first|(refine r_ ?_;simp[yi])|refine q_ ?_
   refine Qc (sl':=[(0,.i d),(3,.vptr N 0),(6,.bool false),(7,.list (L.map kyP)),(46,.list (L.map kyP)),(47,.i L.length),(48,.i (k+1:Nat))]) ?_ (by simp);refine zd _ ⟨by omega,Qh (Qb yM _) _,fun i hi zu=> ?_⟩ (by omega);have yl:i<Y.length:=Qi ((yk i hi zu).trans (zP hi));rw[zH (Ne.symm zu),zI yl];exact yk i hi zu
  ·have ze:k=L.length:=by simp at zp;omega
   subst ze;rw[xB]at yM;repeat first|(refine r_ ?_;simp)|refine q_ ?_
   exact⟨yM,yk⟩
end Go.Abs
namespace Go.Abs
open Go Go.Proofs Go.Maps Go.RowKit
section
variable {P:Program} [Env P] {nt k:Nat} {S:AS} {ops:Array Oper} {o:Oper} {R:AS→Prop}
theorem Xs{wr:Bool}(hw:Q5 ops S o=some true)(hd:W3 nt o=true)(ho:o.op= .assign (.const (.map none)))(hR:R (S.putD o.dst .top)):Wt P nt k wr ops o S R:=
 u0r hw hd (fun W0 I0 w I m a z1 z6=>⟨.map none,by simp[execOp,ho,Act.eval],.pure (.top _)⟩) hR
end
theorem v0e(a:Aut)(near:Ij):Tl a near 0=Zx a near (Tt a a):=by unfold Tl Zx;refine tE fun s _=> ?_;unfold Dy Ft;cases lkN near s<;>simp
theorem x0m(a:Aut)(near:Ij)(d:Nat):Tl a near (d+1)=Zx a near (fun s=>Zz near (d:Int) (Wj a a s)):=by
 unfold Tl Zx;refine tE fun s _=> ?_;unfold Dy Ft Zz
 congr 1
 ·cases lkN near s<;>simp
 ·show(Wj a a s).any _=(Wj a a s).any _
  congr 1
  funext e;cases lkN near e.2 with
  |none=>simp
  |some k=>simp;omega
structure NB (a:Aut) (near:Ij):Prop where
 nk:NK near
 inn:∀e∈near,inP a e.1
 bd:∀e∈near,e.2≤1000000
theorem NB.len{a:Aut}{near:Ij}(h:NB a near):near.length≤a.fin.length * a.fin.length:=by
 have e:near.length=(near.map (·.1)).length:=by rw[yO]
 rw[←Pw,e];refine Ix _ _ h.nk.nd fun x hx=> ?_;obtain⟨e,he,rfl⟩:=zX.1 hx;exact Fs (h.inn e he).1 (h.inn e he).2
theorem NB.add{a:Aut}(ha:OkA a){near:Ij}(h:NB a near)(pf:Int×Int→Bool)(d:Nat)(hd:d≤1000000):NB a (near++(Zx a near pf).map fun s=>(s,d)):=by
 refine⟨h.nk.round ha pf d (l:=Zx a near pf) (r:=[]) (by simp),fun e he=> ?_,fun e he=> ?_⟩;rcases yH.1 he with he|he
 ·exact h.inn e he
 ·obtain⟨s,hs,rfl⟩:=zX.1 he;exact(Lg hs).1
 ·rcases yH.1 he with he|he
  ·exact h.bd e he
  ·obtain⟨s,hs,rfl⟩:=zX.1 he;exact hd
theorem x1u(a:Aut):NB a []:=⟨⟨by simp,by simp⟩,by simp,by simp⟩
theorem v0l(a:Aut)(f d:Nat)(near:Ij):Jb a (f+1) d near=if Tl a near d=[]then near else Jb a f (d+1) (near++(Tl a near d).map fun s=>(s,d)):=by rw[Jb]
theorem v09(a:Aut):Rn a=Jb a (a.fin.length * a.fin.length+1) 1 ((Tl a [] 0).map fun s=>(s,0)):=rfl
attribute [local irreducible] Wa Ei Rv Wj Tt lkN Zz Zx Jb Rn
theorem S6(a:Aut)(ha:OkA a)(H:List AObj):FC Tryz.prog 89 [Em a] H (fun r H'=>∃M,r= .mref M∧H.length≤M∧H'[M]? =some (mpN (Rn a))∧NB a (Rn a)∧∀i,i<H.length→H'[i]? =H[i]?):=by
 refine W9 tOk Tryz.func89 rfl Tryz.results89 rfl (by simp[Tryz.ntmps89]) ?_;rw[Tryz.ntmps89];simp only[Qg];simp only[Em,Q1];have z6:=ha.fin;repeat first|(refine r_ ?_;simp)|refine q_ ?_
 refine Xs rfl rfl rfl ?_;simp;repeat first|(refine r_ ?_;simp)|refine q_ ?_
 refine R7 rfl rfl rfl ?_;simp;repeat first|(refine r_ ?_;simp)|refine q_ ?_
 refine Yc fun Z hZ=> ?_;have zA:Z[H.length]? =some (.vars (Q1 a)):=by rw[hZ,zL (by omega)];simp[Q1]
 have zM:Z[H.length+1]? =some (mpN []):=by rw[hZ,zL (by omega)];simp[mpN,kvN]
 have zN:Z[H.length+2]? =some (.vars [.mref (H.length+1)]):=by rw[hZ,zL (by omega)];simp
 have zC:Z[H.length+3]? =some (.vars [.i a.fin.length]):=by rw[hZ,zL (by omega)];simp
 have zk:∀i,i<H.length→Z[i]? =H[i]? :=fun i hi=>by rw[hZ,zI hi]
 clear hZ;refine Q8 rfl rfl (w03 a ha Z (H.length+3) (H.length+2) (H.length+1) [] 0 (Tt a a) 146 [.vptr H.length 0] zC zN zM (x1u a).nk (fun p q H' hp hq hk=>FC.mono (y1z a ha H' H.length ((hk _ (Qi zA)).trans zA) p q hp hq) (fun r K ⟨h1,h2⟩=>⟨h1,fun i _=>by rw[h2]⟩))) rfl ?_;rintro _ Y ⟨rfl,yM,yk⟩;simp;have yA:=(yk _ (Qi zA) (by omega)).trans zA;have yN:=(yk _ (Qi zN) (by omega)).trans zN;have yC:=(yk _ (Qi zC) (by omega)).trans zC;have zc:=Qi zC;have z7:∀i,i<H.length→Y[i]? =H[i]? :=fun i hi=>(yk i (by omega) (by omega)).trans (zk i hi);clear zA zM zN zC zk yk zc;clear Z;have z8:=v09 a;rw[v0e]at z8;have za:=(x1u a).add ha (Tt a a) 0 (by omega);rw[List.nil_append]at yM za;generalize zd:(Zx a [] (Tt a a)).map (fun s=>(s,0))=near1 at *
 obtain⟨R,hR⟩:∃R,Rn a=R:=⟨_,rfl⟩
 rw[hR]at z8 ⊢;have zb:=Qi yC;repeat first|(refine r_ ?_;simp)|refine q_ ?_
 refine Qo (Qc (sl':=[(1,.vptr H.length 0),(2,.top),(3,.vptr (H.length+2) 0),(4,.vptr (H.length+3) 0),(5,.fn (.func 145) [] [.vptr (H.length+3) 0,.vptr (H.length+2) 0]),(6,.vptr Y.length 0)]) ?_ (by simp));refine Qp (P:=Tryz.prog) (F:=fun(u:Nat×Nat×Ij×Nat×List AObj)=>⟨[(1,.vptr H.length 0),(2,.top),(3,.vptr (H.length+2) 0),(4,.vptr (H.length+3) 0),(5,.fn (.func 145) [] [.vptr (H.length+3) 0,.vptr (H.length+2) 0]),(6,.vptr u.1 0)],u.2.2.2.2⟩)
  (fun u=>NB a u.2.2.1∧1≤u.2.1∧u.2.1≤u.2.2.1.length+1∧a.fin.length * a.fin.length+1≤u.2.2.1.length+u.2.2.2.1∧R=Jb a u.2.2.2.1 u.2.1 u.2.2.1∧u.2.2.2.2[H.length]? =some (.vars (Q1 a))∧u.2.2.2.2[H.length+1]? =some (mpN u.2.2.1)∧u.2.2.2.2[H.length+2]? =some (.vars [.mref (H.length+1)])∧u.2.2.2.2[H.length+3]? =some (.vars [.i a.fin.length])∧u.2.2.2.2[u.1]? =some (.vars [.i u.2.1])∧∀i,i<H.length→u.2.2.2.2[i]? =H[i]?)
  (fun u=>u.2.2.2.1) ?_ (Y.length,1,near1,a.fin.length * a.fin.length+1,Y++[.vars [.i 1]]) ⟨za,zW _,by simp,by simp,z8,Qb yA _,Qb yM _,Qb yN _,Qb yC _,by simp,fun i hi=>by rw[zI (by omega)];exact z7 i hi⟩
 clear z8 za zd yA yM yN yC z7 zb;clear Y;rintro⟨D,d,near,F,G⟩ ⟨hb,ze,zf,hF,z1,gA,gM,gN,gC,gD,gk⟩ ih;simp only at hb ze zf hF z1 gA gM gN gC gD gk ih ⊢;have zi:=hb.len;have zj:a.fin.length * a.fin.length≤65536:=yW (sa z6.2 z6.2) (by decide);obtain⟨e,rfl⟩:∃e,d=e+1:=⟨d - 1,by omega⟩
 obtain⟨F,rfl⟩:∃f,F=f+1:=⟨F - 1,by omega⟩
 rw[v0l,x0m]at z1;repeat first|(refine r_ ?_;simp[gD])|refine q_ ?_
 refine Q8 rfl rfl (w03 a ha G (H.length+3) (H.length+2) (H.length+1) near (e+1) (fun s=>Zz near (e:Int) (Wj a a s)) 147 [.vptr H.length 0,.vptr (H.length+2) 0,.vptr D 0] gC gN gM hb.nk (fun p q H' hp hq hk=>FC.mono (c07 a ha H' H.length (H.length+2) (H.length+1) D near (e+1) ((hk _ (Qi gA)).trans gA) ((hk _ (Qi gN)).trans gN) ((hk _ (Qi gM)).trans gM) ((hk _ (Qi gD)).trans gD) (by omega) hb.nk p q hp hq) (fun r K ⟨h1,h2⟩=>⟨by rw[h1];congr 2;omega,h2⟩))) rfl ?_;rintro _ Y ⟨rfl,yM,yk⟩;simp;have zg:D≠H.length+1:=fun e=>by rw[e,gM]at gD;simp[mpN]at gD
 have yD:=(yk _ (Qi gD) zg).trans gD;have yA:=(yk _ (Qi gA) (by omega)).trans gA;have yN:=(yk _ (Qi gN) (by omega)).trans gN;have yC:=(yk _ (Qi gC) (by omega)).trans gC;have zl:=Qi gC;have z7:∀i,i<H.length→Y[i]? =H[i]? :=fun i hi=>(yk i (by omega) (by omega)).trans (gk i hi);have zh:=hb.add ha (fun s=>Zz near (e:Int) (Wj a a s)) (e+1) (by omega);generalize Zx a near (fun s=>Zz near (e:Int) (Wj a a s))=L at *
 refine Qa rfl (fun h=> ?_) (fun h=> ?_)
 ·have hL:0<L.length:=by simpa using h
  rw[if_neg (fun k=>by rw[k]at hL;simp at hL)]at z1;have hw:IntKind.i64.wrap ((e:Int)+1+1)=e+1+1:=wrap_i64 _ (by omega) (by omega);repeat first|(refine r_ ?_;simp[yD,hw])|refine q_ ?_
  refine Qc (sl':=[(1,.vptr H.length 0),(2,.top),(3,.vptr (H.length+2) 0),(4,.vptr (H.length+3) 0),(5,.fn (.func 145) [] [.vptr (H.length+3) 0,.vptr (H.length+2) 0]),(6,.vptr Y.length 0)]) ?_ (by simp);have zb:=Qi yC;refine ih (Y.length,e+1+1,near++L.map (fun s=>(s,e+1)),F,_) ⟨zh,by simp only;omega,by simp;omega,by simp;omega,z1,?_,?_,?_,?_,?_,fun i hi=> ?_⟩ (by simp only;omega)
  ·exact Qb yA _
  ·exact Qb yM _
  ·exact Qb yN _
  ·exact Qb yC _
  ·simp
  ·simp only;rw[zI (by omega)];exact z7 i hi
 ·have hL:L=[]:=by
   cases L with
   |nil=>rfl
   |cons x l=>simp at h
  subst hL;rw[if_pos rfl]at z1;subst z1;repeat first|(refine r_ ?_;simp[yN])|refine q_ ?_
  refine⟨by simpa using yM,hb,z7⟩
end Go.Abs
namespace Go.Abs
open Go Go.Proofs Go.Maps
theorem q1n{T:Nat}{l:List Prd}(hl:∀p∈l,PCk T p)(i:Nat):(Wb l i).length≤l.length * 512+2:=by rw[←Lr];have h1:=U0 (R8 (Hv (Qx l i)));have h2:=Fh (Qx l i);rw[Iz,h2]at h1;have:=Yp hl i;omega
theorem f0z{T:Nat}{l:List Prd}(hl:∀p∈l,PCk T p)(hn:l.length≤4096):∀i,(Ty l i).length≤i * 2097153
 |0=>by simp[Ty]
 |i+1=>by have:=f0z hl hn i;have h2:=q1n hl i;have h3:=Py (Wb l i);rw[Ty,wQ,ww,yL];have h4:((yV i).flatMap fun i=>(Tz (Wb l i)).map fun x=>(i,x)).length=(Ty l i).length:=rfl;rw[h4];simp only[List.flatMap_cons,List.flatMap_nil,xO,yO];omega
theorem z06{T:Nat}(hT:T≤16){l:List Prd}(hl:∀p∈l,PCk T p)(hn:l.length≤4096):GB T l.length 40000000 (Ie T l):=by
 have h:=Hq T l (Ty l T);rw[k0s]at h;have h2:=f0z hl hn T;have h3:(Ty l T).length≤40000000:=by have:T * 2097153≤16 * 2097153:=yK _ hT;omega
 exact⟨h.nd,yW h.le h3,h.len,fun g hg s hs=>yW (h.sz g hg s hs) h3,h.kl⟩
theorem k1s{T:Nat}(hT:T≤16){l:List Prd}(hl:∀p∈l,PCk T p)(hn:l.length≤4096):(Ed T l).length≤40000000∧∀c∈Ed T l,∀s∈c,s.length≤40000000:=by have h:=z06 hT hl hn;refine⟨by simpa[Ed]using h.le,fun c hc s hs=> ?_⟩;obtain⟨g,hg,rfl⟩:=zX.1 hc;obtain⟨s',z1,rfl⟩:=zX.1 hs;exact yW (Rc _ _) (by simpa using h.sz g hg s' z1)
theorem w1n{T:Nat}{p:Prd}(h:PWf T p):Wi p=false↔∃t n,PM p t n:=by
 cases hv:Wi p
 ·simp only[true_iff];by_cases hx:∃t n,PM p t n
  ·exact hx
  ·rw[(Ro h).2 fun t n hp=>hx ⟨t,n,hp⟩]at hv;cases hv
 ·simp only[Bool.true_eq_false,false_iff];rintro⟨t,n,hp⟩;exact(Ro h).1 hv t n hp
theorem Zc(L:List Prd):(L8 L).length=L.length:=by
 have key:∀(r s:List Prd),(r.foldl Lj s).length=s.length+r.length:=by
  intro r;induction r with
  |nil=>intro s;simp
  |cons x r ih=>intro s;rw[List.foldl_cons,ih,(P8 s x).length_eq,yY,yY];omega
 have:=key L [];simpa[L8]using this
theorem O4{T:Nat}(h0:0<T)(hT:T≤16){l:List Prd}(hl:∀p∈l,PCk T p)(hn:l.length≤4096):
  (Er T l).length≤40000000∧∀c∈Er T l,PWf T c∧Wi c=false∧∀s∈c,s.length≤40000000:=by
 obtain⟨h1,h2⟩:=k1s hT hl hn;have h3:=Rw h0 hl;have h4:=(An hl).1;refine⟨?_,fun c hc=>⟨h3.wf c hc,(w1n (h3.wf c hc)).2 (h3.ne c hc),h2 c (h3.same h4 hc)⟩⟩;have:=A4 h0 hl;rw[this,Q3,Zc]at h1;exact h1
theorem Dc{T:Nat}(h0:0<T)(hT:T≤16){l:List Prd}(hl:∀p∈l,PCk T p)(hn:l.length≤4096):
  (Q3 T l).length≤40000000∧∀c∈Q3 T l,PWf T c∧Wi c=false∧∀s∈c,s.length≤40000000:=by
 have h:=O4 h0 hT hl hn;have hd:(Er T l).Pairwise (fun p q=>Qz p 0≠Qz q 0):=(Dh h0 hl).imp_of_mem (fun {a b} ha hb hab e=>by
  have h1:=(Rw h0 hl).wf a ha;have h2:=(Rw h0 hl).wf b hb;have h3:=(Ww h1 ((Rw h0 hl).ne a ha)).1;have h4:=(Ww h2 ((Rw h0 hl).ne b hb)).1;rw[e]at h3;exact hab _ _ h3 h4)
 have hp:=(Jv _ hd).1;exact⟨by rw[Q3,Zc];exact h.1,fun c hc=>h.2 c (hp.mem_iff.1 hc)⟩
end Go.Abs
namespace Go.Abs
open Go Go.Proofs Go.Maps Go.RowKit
theorem x14(p q:Prd):Zl (Qn p) (Qn q)=Ln (Qz p 0) (Qz q 0):=by
 have h1:decide (((Qz p 0).1:Int)<(Qz q 0).1)=decide ((Qz p 0).1<(Qz q 0).1):=by rw[decide_eq_decide];omega
 have h2:decide (((Qz p 0).1:Int)=(Qz q 0).1)=decide ((Qz p 0).1=(Qz q 0).1):=by rw[decide_eq_decide];omega
 unfold Zl Ln Qn;simp only[h1,h2]
def Ot(p:Prd)(L:List Prd)(k:Nat):List Prd:=Et p (L.take k)
theorem K0(p:Prd)(L:List Prd):Ot p L 0=[]:=by simp[Ot,Et]
theorem f03(p:Prd)(L:List Prd):Ot p L L.length=Et p L:=by simp[Ot]
theorem y00(p:Prd)(L:List Prd)(k:Nat)(h:k<L.length):Ot p L (k+1)=Ot p L k++((if Wi (Wc L[k] p)then []else [Wc L[k] p])++(if Wi (Wc L[k] (W6 p))then []else [Wc L[k] (W6 p)])):=by unfold Ot Et;rw[zY h,ww];simp
theorem d0i(p:Prd)(L:List Prd)(k:Nat):(Ot p L k).length≤(Et p L).length:=by
 have h:Et p L=Ot p L k++Et p (L.drop k):=by unfold Ot Et;rw[←ww,xY]
 rw[h,yL];omega
def Pt(T:Nat)(l:List Prd)(i:Nat):List Prd:=Er T (l.take i)
theorem Jq(T:Nat)(l:List Prd):Pt T l 0=[Wz T]:=by simp[Pt,Er]
theorem d0l(T:Nat)(l:List Prd):Pt T l l.length=Er T l:=by simp[Pt]
theorem v0c(T:Nat)(l:List Prd)(i:Nat)(h:i<l.length):Pt T l (i+1)=Et l[i] (Pt T l i):=by unfold Pt Er;rw[zY h,vA];rfl
theorem k04{T:Nat}(h0:0<T)(hT:T≤16){l:List Prd}(hl:∀p∈l,PCk T p)(hn:l.length≤4096)(i:Nat):
  (Pt T l i).length≤40000000∧∀c∈Pt T l i,PWf T c∧Wi c=false∧∀s∈c,s.length≤40000000:=
 O4 h0 hT (fun p hp=>hl p (xV hp)) (by rw[wp];omega)
def Dp(L:List Prd)(i:Nat):List Prd:=(L.take i).foldl Lj []
theorem Se(L:List Prd):Dp L 0=[]:=by simp[Dp]
theorem c0g(L:List Prd):Dp L L.length=L8 L:=by simp[Dp,L8]
theorem S1(L:List Prd)(i:Nat)(h:i<L.length):Dp L (i+1)=Lj (Dp L i) L[i]:=by unfold Dp;rw[zY h,vA];rfl
theorem Ca(L:List Prd):∀i,i≤L.length→(Dp L i).length=i
 |0,_=>by rw[Se];rfl
 |i+1,h=>by rw[S1 L i (by omega),(P8 _ _).length_eq,yY,Ca L i (by omega)]
theorem Cq(L:List Prd):∀i,i≤L.length→∀c∈Dp L i,c∈L
 |0,_,c,hc=>by rw[Se]at hc;cases hc
 |i+1,h,c,hc=>by
  rw[S1 L i (by omega)]at hc;rcases List.mem_cons.1 ((P8 _ _).mem_iff.1 hc)with rfl|hc
  ·exact zT _
  ·exact Cq L i (by omega) c hc
theorem g0i{s:List Prd}{x:Prd}{j:Nat}(h:j<s.length):Z8 s x (j+1)=if Ln (Qz x 0) (Qz s[j] 0)=true then Z8 s x j else j+1:=by rw[Z8,zP h]
theorem Ml{α:Type}{xs:List α}{k n:Nat}(hn:n=xs.length):(xs.drop k).take (n - k)=xs.drop k:=by rw[zV (by rw[wn];omega)]
attribute [local irreducible] Ot Pt Dp Wz Wc W6 Wi Z8 Er Et Qz
theorem Cd(T:Int)(l:List Prd)(hT:1≤T∧T≤16)(hl:∀p∈l,PCk T.toNat p)(hn:l.length≤4096):PC Tryz.prog 165 [.i T,LP l] (fun r=>r=LP (Q3 T.toNat l)):=by
 refine Ql tOk Tryz.func165 rfl Tryz.results165 rfl (by simp[Tryz.ntmps165]) ?_;rw[Tryz.ntmps165];simp only[Qg];simp only[LP];repeat first|(refine r_ ?_;simp)|refine q_ ?_
 refine Qe rfl rfl (by simp) (y0g T (by omega) (by omega)) rfl ?_;rintro _ rfl;simp;repeat first|(refine r_ ?_;simp)|refine q_ ?_
 refine Qo (Qc (sl':=[(0,.i T),(1,.list (l.map encP)),(5,.sl 0 1 0 (Pt T.toNat l 0).length),(6,.i (0:Nat))]) ?_ (by simp[Jq]));have hg:=k04 (T:=T.toNat) (by omega) (by omega) hl hn;refine Qp (F:=fun(u:Nat×Nat×List AObj)=>⟨[(0,.i T),(1,.list (l.map encP)),(5,.sl u.2.1 1 0 (Pt T.toNat l u.1).length),(6,.i u.1)],u.2.2⟩)
  (fun u=>u.1≤l.length∧u.2.2[u.2.1]? =some (.arr 76 1 ((Pt T.toNat l u.1).map encP))) (fun u=>l.length - u.1) ?_ (0,0,_) ⟨wD _,by rw[Jq];rfl⟩
 rintro⟨i,q,H⟩ ⟨hi,hq⟩ ih;simp only at hi hq ih ⊢;repeat first|(refine r_ ?_;simp)|refine q_ ?_
 refine Qa rfl (fun ye=> ?_) (fun yf=> ?_)
 ·have z7:i<l.length:=by simpa using ye
  have hw:IntKind.i64.wrap ((i:Int)+1)=i+1:=wrap_i64 _ (by omega) (by omega);obtain⟨g1,g2⟩:=hg i;have zw:=v0c T.toNat l i z7;have yy:=(hg (i+1)).1;have zh:=hl _ (zT z7);have yr:=fun q' G'=>ih (i+1,q',G');simp only[zw]at yr;rw[zw]at yy;clear zw;have ze:(wV encP l)[i]? =some (encP l[i]):=by simp[z7]
  have zf:∀hh,(wV encP l)[i]'hh=encP l[i]:=fun hh=>by simp
  have zg:(wV encP l).length=l.length:=by simp
  generalize l[i]=p at *;generalize Pt T.toNat l i=L at *
  repeat first|(refine r_ ?_;simp)|refine q_ ?_
  refine Q6 7 76 1 rfl ?_;simp;repeat first|(refine r_ ?_;simp)|refine q_ ?_
  have yz:=SL.start H 76 1;refine Qo (Qc (sl':=[(0,.i T),(1,.list (l.map encP)),(5,.sl q 1 0 L.length),(6,.i i),(7,.sl H.length 1 0 (Ot p L 0).length),(8,.i (0:Nat))]) ?_ (by simp[K0]));refine Qp (F:=fun(u:Nat×Nat×List AObj)=>⟨[(0,.i T),(1,.list (l.map encP)),(5,.sl q 1 0 L.length),(6,.i i),(7,.sl u.2.1 1 0 (Ot p L u.1).length),(8,.i u.1)],u.2.2⟩)
   (fun u=>u.1≤L.length∧SL H u.2.2 u.2.1 76 1 ((Ot p L u.1).map encP)) (fun u=>L.length - u.1) ?_ (0,H.length,_) ⟨wD _,by rw[K0];simpa using yz⟩
  rintro⟨k,q',G⟩ ⟨hk,hs⟩ ih2;simp only at hk hs ih2 ⊢;repeat first|(refine r_ ?_;simp)|refine q_ ?_
  refine Qa rfl (fun yg=> ?_) (fun yh=> ?_)
  ·have z8:k<L.length:=by simpa using yg
   have y8:IntKind.i64.wrap ((k:Int)+1)=k+1:=wrap_i64 _ (by omega) (by omega);have zy:=y00 p L k z8;have xa:=d0i p L k;have za:=fun q' G'=>ih2 (k+1,q',G');simp only[zy]at za;clear zy;obtain⟨w1,w2,w3⟩:=g2 _ (zT z8);have zz:(wV encP L)[k]? =some (encP L[k]):=by simp[z8]
   have y9:(wV encP L).length=L.length:=by simp
   have y0:∀hh,(wV encP L)[k]'hh=encP L[k]:=fun hh=>by simp
   generalize L[k]=c at *;generalize Ot p L k=S at *
   have cB:=He T.toNat c p w1 zh.wf (fun s hs t ht=>by have:=w3 s hs;have:=(zh.2 t ht).1;omega) (by omega);have cR:=v0r T.toNat p zh.wf (fun s hs=>by have:=(zh.2 s hs).1;omega) (by omega);have cB2:=He T.toNat c (W6 p) w1 (Le zh.wf) (fun s hs t ht=>by have:=w3 s hs;have:=y1a zh.wf (fun s hs=>(zh.2 s hs).1) t ht;omega) (by omega);have y4:=hs.kp hq;have ya:∀M:List AObj,(G++M)[q]? =some (.arr 76 1 (L.map encP)):=fun M=>Qb y4 M;simp only[encP]at zz y0 ze zf;simp only[encP]at cB cR cB2;repeat first|(refine r_ ?_;simp)|refine q_ ?_
   refine Y3 (P:=Tryz.prog) tOk mixed [21,22] (.val 0 (.val 1 (.val 2 (.val 3 (.val 4 (.val 5 (.val 6 (.val 7 (.val 9 (.val 10 (.val 11 (.val 12 (.val 13 (.val 14 (.val 15 (.val 16 (.three 8 (.three 17 (.three 18 (.two 19 (.one 20 (.one 21 (.one 22 (.done)))) 20 (.one 19 (.one 21 (.one 22 (.done))))) 19 (.two 18 (.one 20 (.one 21 (.one 22 (.done)))) 20 (.one 18 (.one 21 (.one 22 (.done))))) 20 (.two 18 (.one 19 (.one 21 (.one 22 (.done)))) 19 (.one 18 (.one 21 (.one 22 (.done)))))) 19 (.two 17 (.two 18 (.one 20 (.one 21 (.one 22 (.done)))) 20 (.one 18 (.one 21 (.one 22 (.done))))) 20 (.one 17 (.one 18 (.one 21 (.one 22 (.done)))))) 20 (.two 17 (.two 18 (.one 19 (.one 21 (.one 22 (.done)))) 19 (.one 18 (.one 21 (.one 22 (.done))))) 19 (.one 17 (.one 18 (.one 21 (.one 22 (.done))))))) 19 (.two 8 (.two 17 (.two 18 (.one 20 (.one 21 (.one 22 (.done)))) 20 (.one 18 (.one 21 (.one 22 (.done))))) 20 (.one 17 (.one 18 (.one 21 (.one 22 (.done)))))) 20 (.one 8 (.one 17 (.one 18 (.one 21 (.one 22 (.done))))))) 20 (.two 8 (.two 17 (.two 18 (.one 19 (.one 21 (.one 22 (.done)))) 19 (.one 18 (.one 21 (.one 22 (.done))))) 19 (.one 17 (.one 18 (.one 21 (.one 22 (.done)))))) 19 (.one 8 (.one 17 (.one 18 (.one 21 (.one 22 (.done)))))))))))))))))))))))) (fun S'=>∃(u v:Nat) (E:List AObj),S'.hp=G++E∧look S'.sl 9=some (.vptr u 0)∧look S'.sl 10=some (.vptr v 0)∧(G++E)[u]? =some (.vars [.list ((Wc c p).map encL)])∧(G++E)[v]? =some (.vars [.list ((Wc c (W6 p)).map encL)])∧look S'.sl 0=some (.i T)∧look S'.sl 1=some (.list (l.map encP))∧look S'.sl 5=some (.sl q 1 0 L.length)∧look S'.sl 6=some (.i i)∧look S'.sl 7=some (.sl q' 1 0 S.length)∧look S'.sl 8=some (.i k)) rfl (by kernel_rfl) ?_ ?_
   ·simp[y4,ya,zz,y0,y9,z8,z7,ze,zf,zg]
    repeat' (first
     |refine And.intro ?_ ?_
     |(refine Qe rfl rfl (by simp) cB rfl ?_;rintro _ rfl;simp[y4,ya,zz,y0,y9,z8,z7,ze,zf,zg])
     |(refine Qe rfl rfl (by simp) cR rfl ?_;rintro _ rfl;simp[y4,ya,zz,y0,y9,z8,z7,ze,zf,zg])
     |(refine Qe rfl rfl (by simp) cB2 rfl ?_;rintro _ rfl;simp[y4,ya,zz,y0,y9,z8,z7,ze,zf,zg]))
   ·rintro⟨sl,E0⟩ ⟨u,v,E,rfl,s9,s10,hu,hv,s0,s1,s5,s6,s7,s8⟩;simp only at s9 s10 s0 s1 s5 s6 s7 s8;simp;refine Qw (sl':=[(0,.i T),(1,.list (l.map encP)),(5,.sl q 1 0 L.length),(6,.i i),(7,.sl q' 1 0 S.length),(8,.i k),(9,.vptr u 0),(10,.vptr v 0)]) ?_ (by simp[s9,s10,s0,s1,s5,s6,s7,s8]);have zd:=hs.add E;have xb:=zd.kp hq;generalize G++E=G2 at *
    have x0:q'≠v:=fun e=>by have:=zd.arr;rw[e,hv]at this;simp at this
    have yt:∀M,(G2.set q' .dead++M)[v]? =some (.vars [.list ((Wc c (W6 p)).map encL)]):=fun M=>Qb (Qd x0 hv _) M;repeat first|(refine r_ ?_;simp[hu])|refine q_ ?_
    refine Qe rfl rfl (by simp) (Au (Wc c p)) rfl ?_;rintro _ rfl;simp;have zi:(wV encP S).length=S.length:=by simp
    cases hv1:Wi (Wc c p)with
    |true=>
     rw[hv1]at za;refine Qm rfl ?_;simp;repeat first|(refine r_ ?_;simp[hv])|refine q_ ?_
     refine Qe rfl rfl (by simp) (Au (Wc c (W6 p))) rfl ?_;rintro _ rfl;simp;cases hv2:Wi (Wc c (W6 p))with
     |true=>
      rw[hv2]at za;refine Qm rfl ?_;simp;repeat first|(refine r_ ?_;simp[y8])|refine q_ ?_
      refine Qc (sl':=[(0,.i T),(1,.list (l.map encP)),(5,.sl q 1 0 L.length),(6,.i i),(7,.sl q' 1 0 S.length),(8,.i (k+1:Nat))]) ?_ (by simp);have:=za q' G2 ⟨by omega,by simpa using zd⟩ (by omega);simpa using this
     |false=>
      rw[hv2]at za;refine Qm rfl ?_;simp;repeat first|(refine r_ ?_;simp[hv])|refine q_ ?_
      refine Qf tOk rfl rfl T91 rfl T76 rfl (by decide) (by decide) rfl rfl rfl ?_;simp[Qb zd.arr,Qj zd.arr,zi];refine⟨by simp[Wk,Qb zd.arr,Qj zd.arr,zi]<;>omega,?_⟩;repeat first|(refine r_ ?_;simp[y8])|refine q_ ?_
      refine Qc (sl':=[(0,.i T),(1,.list (l.map encP)),(5,.sl q 1 0 L.length),(6,.i i),(7,.sl (G2.length+1) 1 0 (S.length+1)),(8,.i (k+1:Nat))]) ?_ (by simp);have:=za (G2.length+1) _ ⟨by omega,by simpa using zd.put [AObj.arr 76 1 [encP (Wc c (W6 p))]] ((S++[Wc c (W6 p)]).map encP) rfl⟩ (by omega);simpa using this
    |false=>
     rw[hv1]at za;refine Qm rfl ?_;simp;repeat first|(refine r_ ?_;simp[hu])|refine q_ ?_
     refine Qf tOk rfl rfl T91 rfl T76 rfl (by decide) (by decide) rfl rfl rfl ?_;simp[Qb zd.arr,Qj zd.arr,zi];refine⟨by simp[Wk,Qb zd.arr,Qj zd.arr,zi]<;>omega,?_⟩;repeat first|(refine r_ ?_;simp[yt])|refine q_ ?_
     have yu:=zd.put [AObj.arr 76 1 [encP (Wc c p)]] ((S++[Wc c p]).map encP) rfl;refine Yc fun Z hZ=> ?_;have zx:SL H Z (G2.length+1) 76 1 ((S++[Wc c p]).map encP):=by rw[hZ];simpa using yu
     have x1:Z[v]? =some (.vars [.list ((Wc c (W6 p)).map encL)]):=by rw[hZ];exact yt _
     clear hZ yu;have y5:((S++[Wc c p]).map encP).length=S.length+1:=by simp
     generalize G2.length+1=q3 at *;refine Qe rfl rfl (by simp) (Au (Wc c (W6 p))) rfl ?_
     rintro _ rfl;simp;cases hv2:Wi (Wc c (W6 p))with
     |true=>
      rw[hv2]at za;refine Qm rfl ?_;simp;repeat first|(refine r_ ?_;simp[y8])|refine q_ ?_
      refine Qc (sl':=[(0,.i T),(1,.list (l.map encP)),(5,.sl q 1 0 L.length),(6,.i i),(7,.sl q3 1 0 (S.length+1)),(8,.i (k+1:Nat))]) ?_ (by simp);have:=za q3 Z ⟨by omega,by simpa using zx⟩ (by omega);simpa using this
     |false=>
      rw[hv2]at za;refine Qm rfl ?_;simp;repeat first|(refine r_ ?_;simp[x1])|refine q_ ?_
      generalize y6:(S++[Wc c p]).map encP=mm at *;refine Qf tOk rfl rfl T91 rfl T76 rfl (by decide) (by decide) rfl rfl rfl ?_
      simp[Qb zx.arr,Qj zx.arr,y5];refine⟨by simp[Wk,Qb zx.arr,Qj zx.arr,y5]<;>omega,?_⟩;repeat first|(refine r_ ?_;simp[y8])|refine q_ ?_
      refine Qc (sl':=[(0,.i T),(1,.list (l.map encP)),(5,.sl q 1 0 L.length),(6,.i i),(7,.sl (Z.length+1) 1 0 (S.length+2)),(8,.i (k+1:Nat))]) ?_ (by simp);have x2:=zx.put [AObj.arr 76 1 [encP (Wc c (W6 p))]] (mm++[encP (Wc c (W6 p))]) rfl;have:=za (Z.length+1) _ ⟨by omega,by
       have e:wV encP (S++((if false=true then []else [Wc c p])++if false=true then []else [Wc c (W6 p)]))=mm++[encP (Wc c (W6 p))]:=by rw[←y6];simp
       rw[e];simpa using x2⟩ (by omega)
      simpa using this
  ·have y7:k=L.length:=by simp at yh;omega
   have x3:Ot p L k=Et p L:=by rw[y7,f03]
   rw[x3]at hs ⊢;repeat first|(refine r_ ?_;simp[hw])|refine q_ ?_
   refine Qc (sl':=[(0,.i T),(1,.list (l.map encP)),(5,.sl q' 1 0 (Et p L).length),(6,.i (i+1:Nat))]) ?_ (by simp);exact yr q' G ⟨by omega,hs.arr⟩ (by omega)
 ·have zj:i=l.length:=by simp at yf;omega
  subst zj;rw[d0l]at hq ⊢;obtain⟨xc,yv⟩:=O4 (T:=T.toNat) (by omega) (by omega) hl hn;have hR:Q3 T.toNat l=L8 (Er T.toNat l):=rfl;rw[hR];generalize Er T.toNat l=C at *
  repeat first|(refine r_ ?_;simp)|refine q_ ?_
  refine Qw (sl':=[(5,.sl q 1 0 C.length),(11,.nils),(12,.i (0:Nat))]) ?_ (by simp);refine Wl q hq ?_;simp;rw[zV (by simp)];refine Q6 11 76 1 rfl ?_;simp;clear hq;refine Qo (Qc (sl':=[(5,.list (C.map encP)),(11,.sl H.length 1 0 (0:Nat)),(12,.i (0:Nat))]) ?_ (by simp));refine Qp (F:=fun(u:Nat×Nat×List AObj)=>⟨[(5,.list (C.map encP)),(11,.sl u.2.1 1 0 u.1),(12,.i u.1)],u.2.2⟩)
   (fun u=>u.1≤C.length∧u.2.2[u.2.1]? =some (.arr 76 1 ((Dp C u.1).map encP))) (fun u=>C.length - u.1) ?_ (0,H.length,_) ⟨wD _,by rw[Se];simp⟩
  rintro⟨i,q2,G⟩ ⟨x4,zc⟩ ih3;simp only at x4 zc ih3 ⊢;repeat first|(refine r_ ?_;simp)|refine q_ ?_
  refine Qa rfl (fun ye=> ?_) (fun yf=> ?_)
  ·have z7:i<C.length:=by simpa using ye
   have hw:IntKind.i64.wrap ((i:Int)+1)=i+1:=wrap_i64 _ (by omega) (by omega);have zi:=Ca C i (by omega);have x5:=Cq C i (by omega);have zw:=S1 C i z7;have zk:=fun q' G'=>ih3 (i+1,q',G');simp only[zw]at zk;clear zw;obtain⟨w1,w2,w3⟩:=yv _ (zT z7);have zm:(wV encP C)[i]? =some (encP C[i]):=by simp[z7]
   have zn:∀hh,(wV encP C)[i]'hh=encP C[i]:=fun hh=>by simp
   generalize C[i]=x at *;generalize Dp C i=S at *
   have zb:(S.map encP).length=i:=by simpa using zi
   repeat first|(refine r_ ?_;simp)|refine q_ ?_
   refine Qo (Qc (sl':=[(5,.list (C.map encP)),(11,.sl q2 1 0 i),(12,.i i),(13,.i i)]) ?_ (by simp));refine Qp (F:=fun(j:Nat)=>⟨[(5,.list (C.map encP)),(11,.sl q2 1 0 i),(12,.i i),(13,.i j)],G⟩)
    (fun j=>j≤i∧Z8 S x j=Z8 S x S.length) (fun j=>j) ?_ i ⟨zW _,by rw[zi]⟩
   rintro j ⟨hj,hJ⟩ ih4;try simp only at hj hJ ih4 ⊢
   by_cases hj0:0<j
   ·obtain⟨j',rfl⟩:∃j',j=j'+1:=⟨j - 1,by omega⟩
    have yi:j'<S.length:=by omega
    have yb:IntKind.i64.wrap (j':Int)=j':=wrap_i64 _ (by omega) (by omega);obtain⟨y1,y2,y3⟩:=yv _ (x5 _ (zT yi));rw[g0i yi]at hJ;have yc:(wV encP S)[j']? =some (encP S[j']):=by simp[yi]
    have yd:∀hh,(wV encP S)[j']'hh=encP S[j']:=fun hh=>by simp
    have zo:(0:Int)<(j':Int)+1:=by omega
    have yj:j'<i:=by omega
    simp only[encP]at zm zn yc yd;repeat first|(refine r_ ?_;simp)|refine q_ ?_
    refine Qk tOk mixed [] (.val 0 (.val 1 (.val 2 (.val 3 (.val 4 (.val 5 (.val 6 (.val 8 (.val 9 (.val 10 (.val 11 (.val 12 (.one 7 (.one 13 (.one 14 (.val 15 (.done))))))))))))))))) rfl (by kernel_rfl) ?_;simp[z7,zm,zn,zc,yc,yd,yb,zb,zo,yj];refine Qe rfl rfl (by simp) (S0 x w2) rfl ?_;rintro _ rfl;simp[z7,zm,zn,zc,yc,yd,yb,zb,zo,yj];refine Qe rfl rfl (by simp) (S0 S[j'] y2) rfl ?_;rintro _ rfl;simp[z7,zm,zn,zc,yc,yd,yb,zb,zo,yj];refine Qe rfl rfl (by simp) (V7 (Qn x) (Qn S[j'])) rfl ?_;rintro _ rfl;simp;rw[x14];cases hb:Ln (Qz x 0) (Qz S[j'] 0)with
    |true=>
     rw[hb,if_pos rfl]at hJ;refine Qm rfl ?_;repeat first|(refine r_ ?_;simp[yb])|refine q_ ?_
     refine Qc (sl':=[(5,.list (C.map encP)),(11,.sl q2 1 0 i),(12,.i i),(13,.i j')]) ?_ (by simp);exact ih4 j' ⟨by omega,hJ⟩ (by omega)
    |false=>
     rw[hb,if_neg (by simp)]at hJ;refine Qm rfl ?_;obtain⟨k,hk⟩:∃k,k=j'+1:=⟨_,rfl⟩
     rw[←hk]at hJ;have yk:k=Z8 S x S.length:=hJ;have zp:k≤i:=by omega
     refine Qw (sl':=[(5,.list (C.map encP)),(11,.sl q2 1 0 i),(12,.i i),(13,.i (k:Nat))]) ?_ (by simp[hk]);have x6:(0:Int)≤(k:Int):=by omega
     have yl:(k:Int)≤(i:Int):=by omega
     have zq:Lj S x=S.take k++x::S.drop k:=by rw[Lj,←yk]
     repeat first|(refine r_ ?_;simp[zp])|refine q_ ?_
     refine Qf tOk rfl rfl T91 rfl T76 rfl (by decide) (by decide) rfl rfl rfl ?_;simp[Qb zc,Qj zc,zb,zp];refine⟨⟨fun y hy=> ?_,by simp;omega⟩,?_⟩
     ·obtain⟨c',_,rfl⟩:=zX.1 (vF (xV hy));exact⟨rfl,rfl⟩
     rw[Ml zb.symm];refine Wf fun Z hZ=> ?_;have zr:=Qi zc;have z1:Z[q2]? =some (.arr 76 1 (S.map encP)):=by rw[hZ];simp[zI zr,zc]
     have z2:Z[G.length+1]? =some (.arr 76 1 ((S.map encP).drop k)):=by rw[hZ];simp
     have zl:Z.length=G.length+2:=by rw[hZ];simp
     clear hZ;refine Qw (sl':=[(5,.list (C.map encP)),(11,.sl q2 1 0 i),(12,.i i),(13,.i (k:Nat)),(14,.sl (G.length+1) 1 0 (i - k))]) ?_ (by simp);refine Vv q2 k z1 ?_;have z3:(Z.set q2 (.arr 76 1 ((S.map encP).take k)))[q2]? =some (.arr 76 1 ((S.map encP).take k)):=Qh z1 _;have z4:(Z.set q2 (.arr 76 1 ((S.map encP).take k)))[G.length+1]? =some (.arr 76 1 ((S.map encP).drop k)):=Qd (by omega) z2 _;have x7:(Z.set q2 (.arr 76 1 ((S.map encP).take k))).length=G.length+2:=by simp[zl]
     generalize Z.set q2 (.arr 76 1 ((S.map encP).take k))=Y at *;clear z1 z2 zl;clear Z
     have zt:((S.map encP).take k).length=k:=by rw[wp];omega
     have ym:((S.map encP).drop k).length=i - k:=by rw[wn];omega
     have yn:(S.map encP).take k=(S.take k).map encP:=by rw[xS]
     have yo:(S.map encP).drop k=(S.drop k).map encP:=by rw[xT]
     have zu:(Lj S x).map encP=(S.map encP).take k++(encP x::(S.map encP).drop k):=by rw[zq,yX,xH,yn,yo]
     have yp:∀y∈(S.map encP).drop k,y.cells.length=1∧y.cells.all AV.leaf=true:=fun y hy=>by obtain⟨c',_,rfl⟩:=zX.1 (vF hy);exact⟨rfl,rfl⟩
     generalize (S.map encP).take k=tk at *;generalize (S.map encP).drop k=dk at *;refine Qk tOk mixed [8,10] (.val 0 (.val 1 (.val 2 (.val 3 (.val 4 (.val 5 (.val 6 (.val 9 (.one 7 (.one 8 (.one 10 (.val 11 (.done))))))))))))) rfl (by kernel_rfl) ?_
     simp[z7,zm,zn,zp];refine Qf tOk rfl rfl T91 rfl T76 rfl (by decide) (by decide) rfl rfl rfl ?_;simp[Qb z3,Qj z3,zt];refine⟨by simp[Wk,Qb z3,Qj z3,zt]<;>omega,?_⟩;refine Yc fun Z hZ=> ?_;have z5:Z[Y.length+1]? =some (.arr 76 1 (tk++[encP x])):=by rw[hZ,zL (by simp)];simp
     have z6:Z[G.length+1]? =some (.arr 76 1 dk):=by rw[hZ];exact Qb (Qd (by omega) z4 _) _
     clear hZ;have zv:(tk++[encP x]).length=k+1:=by simp[zt]
     have x8:i - k≤dk.length:=by omega
     have yq:dk.take (i - k)=dk:=zV (by omega);generalize y6:tk++[encP x]=mm at *;refine Qf tOk rfl rfl T91 rfl T76 rfl (by decide) (by decide) rfl rfl rfl ?_
     simp[Qb z5,Qj z5,Qb z6,zv,ym,yq,z5,z6];refine⟨⟨yp,by simp;omega⟩,?_⟩;repeat first|(refine r_ ?_;simp[hw])|refine q_ ?_
     refine Qc (sl':=[(5,.list (C.map encP)),(11,.sl Z.length 1 0 (i+1)),(12,.i (i+1:Nat))]) ?_ (by simp;omega);refine zk Z.length _ ⟨by omega,?_⟩ (by omega);rw[zu,zL (by simp),←y6];simp
   ·have x9:j=0:=by omega
    subst x9;have yw:IntKind.i64.wrap (-1)= -1:=by decide
    repeat first|(refine r_ ?_;simp)|refine q_ ?_
    refine Qk tOk mixed [] (.val 0 (.val 1 (.val 2 (.val 3 (.val 4 (.val 5 (.val 6 (.val 8 (.val 9 (.val 10 (.val 11 (.val 12 (.one 7 (.one 13 (.one 14 (.val 15 (.done))))))))))))))))) rfl (by kernel_rfl) ?_;simp[z7,zm,zn,zc,zb,yw];refine Q4 rfl rfl ?_;simp[zc,zb,yw];refine Q4 rfl rfl ?_;simp;refine Q4 rfl rfl ?_;simp;refine Qm rfl ?_;obtain⟨k,hk⟩:∃k,k=0:=⟨_,rfl⟩
    have yk:k=Z8 S x S.length:=by rw[←hJ,hk];unfold Z8;rfl
    have zp:k≤i:=by omega
    refine Qw (sl':=[(5,.list (C.map encP)),(11,.sl q2 1 0 i),(12,.i i),(13,.i (k:Nat))]) ?_ (by simp[hk]);have x6:(0:Int)≤(k:Int):=by omega
    have yl:(k:Int)≤(i:Int):=by omega
    have zq:Lj S x=S.take k++x::S.drop k:=by rw[Lj,←yk]
    repeat first|(refine r_ ?_;simp[zp])|refine q_ ?_
    refine Qf tOk rfl rfl T91 rfl T76 rfl (by decide) (by decide) rfl rfl rfl ?_;simp[Qb zc,Qj zc,zb,zp];refine⟨⟨fun y hy=> ?_,by simp;omega⟩,?_⟩
    ·obtain⟨c',_,rfl⟩:=zX.1 (vF (xV hy));exact⟨rfl,rfl⟩
    rw[Ml zb.symm];refine Wf fun Z hZ=> ?_;have zr:=Qi zc;have z1:Z[q2]? =some (.arr 76 1 (S.map encP)):=by rw[hZ];simp[zI zr,zc]
    have z2:Z[G.length+1]? =some (.arr 76 1 ((S.map encP).drop k)):=by rw[hZ];simp
    have zl:Z.length=G.length+2:=by rw[hZ];simp
    clear hZ;refine Qw (sl':=[(5,.list (C.map encP)),(11,.sl q2 1 0 i),(12,.i i),(13,.i (k:Nat)),(14,.sl (G.length+1) 1 0 (i - k))]) ?_ (by simp);refine Vv q2 k z1 ?_;have z3:(Z.set q2 (.arr 76 1 ((S.map encP).take k)))[q2]? =some (.arr 76 1 ((S.map encP).take k)):=Qh z1 _;have z4:(Z.set q2 (.arr 76 1 ((S.map encP).take k)))[G.length+1]? =some (.arr 76 1 ((S.map encP).drop k)):=Qd (by omega) z2 _;have x7:(Z.set q2 (.arr 76 1 ((S.map encP).take k))).length=G.length+2:=by simp[zl]
    generalize Z.set q2 (.arr 76 1 ((S.map encP).take k))=Y at *;clear z1 z2 zl;clear Z
    have zt:((S.map encP).take k).length=k:=by rw[wp];omega
    have ym:((S.map encP).drop k).length=i - k:=by rw[wn];omega
    have yn:(S.map encP).take k=(S.take k).map encP:=by rw[xS]
    have yo:(S.map encP).drop k=(S.drop k).map encP:=by rw[xT]
    have zu:(Lj S x).map encP=(S.map encP).take k++(encP x::(S.map encP).drop k):=by rw[zq,yX,xH,yn,yo]
    have yp:∀y∈(S.map encP).drop k,y.cells.length=1∧y.cells.all AV.leaf=true:=fun y hy=>by obtain⟨c',_,rfl⟩:=zX.1 (vF hy);exact⟨rfl,rfl⟩
    generalize (S.map encP).take k=tk at *;generalize (S.map encP).drop k=dk at *;refine Qk tOk mixed [8,10] (.val 0 (.val 1 (.val 2 (.val 3 (.val 4 (.val 5 (.val 6 (.val 9 (.one 7 (.one 8 (.one 10 (.val 11 (.done))))))))))))) rfl (by kernel_rfl) ?_
    simp[z7,zm,zn,zp];refine Qf tOk rfl rfl T91 rfl T76 rfl (by decide) (by decide) rfl rfl rfl ?_;simp[Qb z3,Qj z3,zt];refine⟨by simp[Wk,Qb z3,Qj z3,zt]<;>omega,?_⟩;refine Yc fun Z hZ=> ?_;have z5:Z[Y.length+1]? =some (.arr 76 1 (tk++[encP x])):=by rw[hZ,zL (by simp)];simp
    have z6:Z[G.length+1]? =some (.arr 76 1 dk):=by rw[hZ];exact Qb (Qd (by omega) z4 _) _
    clear hZ;have zv:(tk++[encP x]).length=k+1:=by simp[zt]
    have x8:i - k≤dk.length:=by omega
    have yq:dk.take (i - k)=dk:=zV (by omega);generalize y6:tk++[encP x]=mm at *;refine Qf tOk rfl rfl T91 rfl T76 rfl (by decide) (by decide) rfl rfl rfl ?_
    simp[Qb z5,Qj z5,Qb z6,zv,ym,yq,z5,z6];refine⟨⟨yp,by simp;omega⟩,?_⟩;repeat first|(refine r_ ?_;simp[hw])|refine q_ ?_
    refine Qc (sl':=[(5,.list (C.map encP)),(11,.sl Z.length 1 0 (i+1)),(12,.i (i+1:Nat))]) ?_ (by simp;omega);refine zk Z.length _ ⟨by omega,?_⟩ (by omega);rw[zu,zL (by simp),←y6];simp
  ·have zj:i=C.length:=by simp at yf;omega
   subst zj;rw[c0g]at zc;have yx:=Zc C;refine Wl q2 zc ?_;simp[yx];rw[zV (by simp[yx])];repeat first|(refine r_ ?_;simp)|refine q_ ?_
end Go.Abs
namespace Go.Abs
open Go Go.Proofs Go.Maps Go.RowKit
def y2v(p:Prd):Bool:=p.any fun s=>decide (256<s.length)
def x2h(p:Prd):Int×Prd:=if y2v p then(5,[])else(0,p)
attribute [local irreducible] Q3 E8 y2v
attribute [local irreducible] Yu x2h
end Go.Abs
namespace Go.Abs
open Go Go.Proofs Go.Maps Go.RowKit
attribute [local irreducible] Wh Qn x08 x11 Ta R3 q11 nxB q25 Kl Wg
end Go.Abs
namespace Go.Abs
open Go Go.Proofs Go.Maps Go.RowKit
attribute [local irreducible] Oo Wh Qn Z5 Y1 Dq E6 stepG Hs Mf Kl q11 nxB q25 z2u Wg
end Go.Abs
namespace Go.Abs
open Go Go.Proofs Go.Maps Go.RowKit
attribute [local irreducible] Tk A5 P2
end Go.Abs
namespace Go.Abs
open Go Go.Proofs Go.Maps Go.RowKit
attribute [local irreducible] Pd O3 Wg
attribute [local irreducible] Tn
def toD(a:Aut)(s:Int)(x:Sy)(j:Nat):Int:=match (a.mv.drop j).find? (fun m=>decide (m.src=s) && Tn m.on x)with|some m=>m.dst|none=> -1
theorem q1k(a:Aut)(s:Int)(x:Sy):toD a s x 0=toL a s x:=rfl
theorem y1n(a:Aut)(s:Int)(x:Sy)(j:Nat)(h:j<a.mv.length):toD a s x j=if(decide (a.mv[j].src=s) && Tn a.mv[j].on x)=true then a.mv[j].dst else toD a s x (j+1):=by unfold toD;rw[wR h,List.find?_cons];cases hb:(decide (a.mv[j].src=s) && Tn a.mv[j].on x)<;>simp
theorem k1p(a:Aut)(s:Int)(x:Sy):toD a s x a.mv.length= -1:=by simp[toD]
attribute [local irreducible] toD toL
theorem v1f(a:Aut)(ha:OkA a)(s:Int)(x:Sy):PC Tryz.prog 107 [encA a,.i s,encSy x] (fun r=>r= .i (toL a s x)):=by
 refine Ql tOk Tryz.func107 rfl Tryz.results107 rfl (by simp[Tryz.ntmps107]) ?_;rw[Tryz.ntmps107];simp only[Qg];simp only[encA,encSy];have zc:=ha.mvs;repeat first|(refine r_ ?_;simp)|refine q_ ?_
 refine Qu a.mv.length (fun j=>toD a s x j=toL a s x) (fun j=>[(1,.i s),(3,.vptr 0 0),(5,.vptr 1 0),(7,.i j)]) (fun _=>[.vars (Q7 a),.vars [.i x.ty,.i x.num]]) rfl (by simp) (by simp) (by simp) (by simp) (q1k a s x) ?_;intro j hj hI ih;repeat first|(refine r_ ?_;simp)|refine q_ ?_
 refine Qa rfl (fun za=> ?_) (fun zb=> ?_)
 ·have z1:j<a.mv.length:=by simpa using za
  have hw:IntKind.i64.wrap ((j:Int)+1)=j+1:=wrap_i64 _ (by omega) (by omega);have z6:=y1n a s x j z1;by_cases he:a.mv[j].src=s
  ·have z7:(a.mv[j].src==s)=true:=by simpa using he
   repeat first|(refine r_ ?_;simp)|refine q_ ?_
   refine Qk tOk mixed [] (.val 0 (.val 1 (.val 2 (.val 3 (.val 4 (.val 5 (.val 6 (.val 7 (.val 8 (.val 9 (.val 10 (.val 11 (.val 12 (.val 13 (.val 14 (.val 15 (.one 16 (.val 17 (.done))))))))))))))))))) rfl (by kernel_rfl) ?_;simp[z1,z7];refine Qe rfl rfl (by simp) (w14 a.mv[j].on x (fun t ht=>by have:=Hp ha (zT z1) t ht;omega)) rfl ?_;rintro _ rfl;simp;rw[decide_eq_true he,Bool.true_and]at z6;cases hb:Tn a.mv[j].on x with
   |true=>
    rw[hb,if_pos rfl]at z6;repeat first|(refine r_ ?_;simp[hb])|refine q_ ?_
    refine Qm rfl ?_;repeat first|(refine r_ ?_;simp[z1])|refine q_ ?_
    rw[←hI,z6]
   |false=>
    rw[hb,if_neg (by simp)]at z6;repeat first|(refine r_ ?_;simp[hb])|refine q_ ?_
    refine Qm rfl ?_;repeat first|(refine r_ ?_;simp[hw])|refine q_ ?_
    refine Qs _ (ih z1 (by rw[←z6];exact hI)) rfl (by simp) ?_ (by simp) (by simp);simp
  ·have z7:(a.mv[j].src==s)=false:=by simpa using he
   rw[decide_eq_false he,Bool.false_and,if_neg (by simp)]at z6;repeat first|(refine r_ ?_;simp)|refine q_ ?_
   refine Qk tOk mixed [] (.val 0 (.val 1 (.val 2 (.val 3 (.val 4 (.val 5 (.val 6 (.val 7 (.val 8 (.val 9 (.val 10 (.val 11 (.val 12 (.val 13 (.val 14 (.val 15 (.one 16 (.val 17 (.done))))))))))))))))))) rfl (by kernel_rfl) ?_;simp[z1,z7];refine Q4 rfl rfl ?_;simp;repeat first|(refine r_ ?_;simp)|refine q_ ?_
   refine Qm rfl ?_;repeat first|(refine r_ ?_;simp[hw])|refine q_ ?_
   refine Qs _ (ih z1 (by rw[←z6];exact hI)) rfl (by simp) ?_ (by simp) (by simp);simp
 ·have z8:j=a.mv.length:=by simp at zb;omega
  subst z8;repeat first|(refine r_ ?_;simp)|refine q_ ?_
  rw[←hI,k1p]
end Go.Abs
namespace Go.Abs
open Go Go.Proofs Go.Maps Go.RowKit
theorem k07{a b:Aut}(ha:OkA a)(hb:OkA b)(ht:b.types=a.types):(∀p∈onA a++onA b,PCk a.types.toNat p)∧(onA a++onA b).length≤4096:=by
 refine⟨fun p hp=> ?_,?_⟩
 ·rcases yH.1 hp with h|h
  ·exact Jz ha p h
  ·rw[←ht];exact Jz hb p h
 ·have h1:=ha.mvs;have h2:=hb.mvs;simp[onA];omega
attribute [local irreducible] Qn Q3
theorem Ns(a b:Aut)(ha:OkA a)(hb:OkA b)(ht:b.types=a.types):PC Tryz.prog 106 [encA a,encA b] (fun r=>r=LSy (Ep a b)):=by
 refine Ql tOk Tryz.func106 rfl Tryz.results106 rfl (by simp[Tryz.ntmps106]) ?_;rw[Tryz.ntmps106];simp only[Qg];simp only[encA];have zh:=ha.mvs;have zi:=hb.mvs;obtain⟨zc,za⟩:=k07 ha hb ht;have z6:=Dc (T:=a.types.toNat) (by have:=ha.types;omega) (by have:=ha.types;omega) zc za;unfold Ep;repeat first|(refine r_ ?_;simp)|refine q_ ?_
 refine Qe rfl rfl (by simp) (Vx a (by omega)) rfl ?_;rintro _ rfl;simp;refine Qf tOk rfl rfl T91 rfl T76 rfl (by decide) (by decide) rfl rfl rfl ?_;simp;refine⟨⟨fun y hy=> ?_,by simp[onA];omega⟩,?_⟩
 ·obtain⟨c',_,rfl⟩:=zX.1 hy;exact⟨rfl,rfl⟩
 repeat first|(refine r_ ?_;simp)|refine q_ ?_
 refine Qe rfl rfl (by simp) (Vx b (by omega)) rfl ?_;rintro _ rfl;simp;refine Qf tOk rfl rfl T91 rfl T76 rfl (by decide) (by decide) rfl rfl rfl ?_;simp;refine⟨⟨fun y hy=> ?_,by simp[onA];omega⟩,?_⟩
 ·obtain⟨c',_,rfl⟩:=zX.1 hy;exact⟨rfl,rfl⟩
 repeat first|(refine r_ ?_;simp)|refine q_ ?_
 refine Eb 3 (e:=76) (c:=1) (xs:=(onA a).map encP++(onA b).map encP) rfl ?_;simp[AV.fz];rw[zV (by simp),←yX];refine Qe rfl rfl (by simp) (Cd a.types (onA a++onA b) ha.types zc za) rfl ?_;rintro _ rfl;simp;generalize Q3 a.types.toNat (onA a++onA b)=cl at *;refine Qw (sl':=[(6,.list (cl.map encP)),(4,.nils)]) ?_ (by simp)
 repeat first|(refine r_ ?_;simp)|refine q_ ?_
 refine Q6 7 53 2 rfl ?_;simp;refine Qo (Qc (sl':=[(6,.list (cl.map encP)),(7,.sl 4 2 0 0),(8,.i 0)]) ?_ (by simp));obtain⟨K,hK⟩:∃K,K=[AObj.vars [AV.i a.types,AV.list (wV AV.bool a.fin),AV.list (wV encMv a.mv)],AObj.vars [AV.i b.types,AV.list (wV AV.bool b.fin),AV.list (wV encMv b.mv)],AObj.dead,AObj.dead]:=⟨_,rfl⟩
 have zd:=SL.start K 53 2;refine Qp (F:=fun(u:Nat×Nat×List AObj)=>⟨[(6,.list (cl.map encP)),(7,.sl u.2.1 2 0 u.1),(8,.i u.1)],u.2.2⟩)
  (fun u=>u.1≤cl.length∧SL K u.2.2 u.2.1 53 2 (((cl.take u.1).map Qn).map encSy)) (fun u=>cl.length - u.1) ?_ (0,4,_) ⟨by simp,by rw[hK]at zd ⊢;exact zd⟩
 rintro⟨j,q,H2⟩ ⟨hj,g⟩ ih;simp only at hj g ih ⊢;repeat first|(refine r_ ?_;simp)|refine q_ ?_
 refine Qa rfl (fun zj=> ?_) (fun zk=> ?_)
 ·have z1:j<cl.length:=by simpa using zj
  have hw:IntKind.i64.wrap ((j:Int)+1)=j+1:=wrap_i64 _ (by omega) (by omega);have zl:((cl.take (j+1)).map Qn).map encSy=((cl.take j).map Qn).map encSy++[encSy (Qn cl[j])]:=by rw[zY z1,yX,yX];rfl
  have z7:(((cl.take j).map Qn).map encSy).length=j:=by simp;omega
  have ze:=fun q' H'=>ih (j+1,q',H');simp only[zl]at ze;have zm:=z6.2 _ (zT z1);have za:=z6.1;have zf:(wV encP cl)[j]? =some (encP cl[j]):=by simp[z1]
  have zg:∀hh,(wV encP cl)[j]'hh=encP cl[j]:=fun hh=>by simp
  generalize ((cl.take j).map Qn).map encSy=acc at *;generalize cl[j]=c at *;simp only[encP]at zf zg
  repeat first|(refine r_ ?_;simp[z1,zf,zg])|refine q_ ?_
  refine Qe rfl rfl (by simp) (S0 c zm.2.1) rfl ?_;rintro _ rfl;simp;refine Qf tOk rfl rfl T45 rfl T53 rfl (by decide) (by decide) rfl rfl rfl ?_;simp[Qb g.arr,Qj g.arr,z7];refine⟨by simp[Wk,Qb g.arr,Qj g.arr,z7]<;>omega,?_⟩;repeat first|(refine r_ ?_;simp[hw])|refine q_ ?_
  exact Qc (sl':=[(6,.list (cl.map encP)),(7,.sl (H2.length+1) 2 0 (j+1)),(8,.i (j+1:Nat))]) (ze (H2.length+1) _ ⟨by omega,g.put [AObj.arr 53 2 [encSy (Qn c)]] _ rfl⟩ (by omega)) (by simp)
 ·have zb:j=cl.length:=by simp at zk;omega
  subst zb;have ga:=g.arr;rw[xB]at ga;have z7:((cl.map Qn).map encSy).length=cl.length:=by simp
  obtain⟨acc,z8⟩:∃acc,acc=(cl.map Qn).map encSy:=⟨_,rfl⟩
  rw[←z8]at ga z7;repeat first|(refine r_ ?_;simp[ga,z7])|refine q_ ?_
  rw[zV (by omega),z8];simp
end Go.Abs
