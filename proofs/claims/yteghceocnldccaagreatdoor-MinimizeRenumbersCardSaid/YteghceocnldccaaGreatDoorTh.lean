/- Part Th of the proof: an abstract machine over the model, and what the functions of the program hand back in its terms. No condition. -/
import Derived.Test.YteghceocnldccaaGreatDoorTg
import Derived.Test.YteghceocnldccaaGreatDoorTc
import Derived.Test.YteghceocnldccaaGreatDoorTf
import Derived.DeepKeys4
import Derived.Test.YteghceocnldccaaGreatDoorTd
import Derived.Test.YteghceocnldccaaGreatDoorTe
set_option linter.all false
open List renaming take_succ_eq_append_getElem→z_,filter_append→uf,filter_cons→uP,filter_nil→tV,length_filter_le→xW,range→yW,getElem?_append_left→zI,ext_getElem?→xX,getElem?_set_self→zU,getElem?_set_ne→zH,getElem?_eq_none→xA,map_congr_left→xP,map_map→vC,mem_range→xH,take_of_length_le→zZ,mem_map→zX,length_cons→y_,length_nil→tW,getElem_mem→zT,getElem?_append_right→zO,getElem_eq_iff→yJ,getElem?_eq_getElem→zP,take_length→xD,flatMap_append→wP,filterMap_append→th,take_append_drop→wd,getElem?_map→yI,append_nil→xS,append_assoc→xZ,range_succ→wT,mem_of_getElem?→zL,map_append→xF,length_append→yS,nodup_append→vT,map_id'→sf,mem_append→yE,filter_congr→tE
open Nat renaming le_trans→yY,le_refl→zV,zero_le→wK,mul_le_mul→sd
open Option renaming map_eq_some_iff→zY
open Bool renaming false_eq_true→uF
set_option maxHeartbeats 8000000
set_option linter.unusedSimpArgs false
set_option maxRecDepth 100000
namespace Go.Abs
open Go Go.Proofs Go.Maps Go.RowKit
attribute [local irreducible] Wf
attribute [local irreducible] A0 Pp y0v Wv f0s w2f Ed
end Go.Abs
namespace Go.Abs
open Go Go.Proofs Go.Maps Go.RowKit
section
variable {P:Program} [Env P] {T:TT} {nt k:Nat} {S:AS}
theorem Iu (hT:TOk P T) (hm:P.follows .mixedOrders=true) {Q:Exit→AS→Prop} {id:Nat} {l:List Oper} (Wr:List Nat) (p:PlanM) (Ph:AS→Prop) (hd:Y3 nt l=true)
  (hp:(Region.noSelect l.toArray && p.size==l.length && Y0 l.toArray (Ul l []) Wr p (Array.replicate l.length false))=true)
  (h:Ug P T nt k l.toArray Wr.contains Ph p S) (hn:∀S',Ph S'→Q .normal S'):AWP P nt k (.region id l.toArray true) Q S:=
 (Fs (Q:=fun e S=>e= .normal∧Ph S) hT hm Wr p hd hp (W8 (fun _ h=>⟨rfl,h⟩) p S h)).mono fun e S ⟨he,hr⟩=>by subst he;exact hn S hr
end
attribute [local irreducible] Ef upL
end Go.Abs
namespace Go.Abs
open Go Go.Proofs Go.Maps Go.RowKit
attribute [simp] z2z z2h z2y q2g z2q z2i
def Tz(a:Aut)(j k:Nat):List Mv:=(a.mv.take j).filter fun m=>decide (m.src=(k:Int)) && !Wo m.on
theorem j0e(a:Aut)(k:Nat):Tz a a.mv.length k=Q8 a k:=by simp[Tz,Q8]
theorem Ud(a:Aut)(k:Nat):Tz a 0 k=[]:=by simp[Tz]
theorem x0k(a:Aut){j:Nat}(h:j<a.mv.length)(k:Nat):Tz a (j+1) k=Tz a j k++(if decide (a.mv[j].src=(k:Int)) && !Wo a.mv[j].on then [a.mv[j]]else []):=by
 unfold Tz;rw[z_ h,uf]
 congr 1
 rw[uP,tV]
theorem u0d(a:Aut)(j k:Nat):(Tz a j k).length≤a.mv.length:=by unfold Tz;refine yY (xW _ _) ?_;rw[List.length_take];omega
def T7(l:List Mv):AV:= .list (l.map encMv)
def Rz(a:Aut):List AV:=(yW a.fin.length).map fun k:Nat=>T7 (Q8 a k)
def Q0(a:Aut):List AV:=[.i a.types,.list (a.fin.map .bool),.list (a.mv.map encMv),.list (Rz a)]
def Eh(a:Aut):AV:= .agg (Q0 a)
def A1(p:Nat)(xs:List Mv):AV:=if xs=[]then .nils else .sl p 3 0 xs.length
def G6(n:Nat)(L:Nat→Nat)(rs:Nat→List Mv):List AV:=(yW n).map fun k=>A1 (L k) (rs k)
theorem Ip(n:Nat)(L:Nat→Nat)(rs:Nat→List Mv):(G6 n L rs).length=n:=by simp[G6]
theorem Fl{n:Nat}(L:Nat→Nat)(rs:Nat→List Mv){k:Nat}(h:k<n):(G6 n L rs)[k]? =some (A1 (L k) (rs k)):=by simp[G6,h]
structure MR (K:List AObj) (n o:Nat) (rs:Nat→List Mv) (L:Nat→Nat) (H:List AObj):Prop where
 out:H[o]? =some (.va 23 1 (G6 n L rs))
 leaf:∀k,k<n→rs k≠[]→H[L k]? =some (.arr 78 3 ((rs k).map encMv))
 inj:∀k k',k<n→k'<n→rs k≠[]→rs k'≠[]→L k=L k'→k=k'
 ne:∀k,k<n→rs k≠[]→L k≠o
 geo:K.length≤o
 geL:∀k,k<n→rs k≠[]→K.length≤L k
 keep:∀j,j<K.length→H[j]? =K[j]?
theorem MR.grow{K:List AObj}{n o:Nat}{rs:Nat→List Mv}{L:Nat→Nat}{H:List AObj}(h:MR K n o rs L H)(E:List AObj):MR K n o rs L (H++E):=by have z1:=h.geo;have ho:=Qi h.out;exact⟨Qb h.out E,fun k hk hn=>Qb (h.leaf k hk hn) E,h.inj,h.ne,h.geo,h.geL,fun j hj=>by rw[zI (by omega)];exact h.keep j hj⟩
theorem MR.put {K:List AObj} {n o:Nat} {rs:Nat→List Mv} {L:Nat→Nat} {H H':List AObj} (h:MR K n o rs L H) {i:Nat} (hi:i<n) {m:Mv} {np:Nat} (zc:H.length≤np)
  (za:H'[o]? =some (.va 23 1 ((G6 n L rs).set i (.sl np 3 0 ((rs i).length+1))))) (z6:H'[np]? =some (.arr 78 3 ((rs i++[m]).map encMv)))
  (hk:∀j,j<H.length→j≠o→(rs i≠[]→j≠L i)→H'[j]? =H[j]?):MR K n o (fun k=>if k=i then rs i++[m]else rs k) (fun k=>if k=i then np else L k) H':=by
 have lo:=Qi h.out;have lL:=fun k hk hn=>Qi (h.leaf k hk hn);refine⟨?_,fun k z1 hn=> ?_,fun k k' z1 z7 hn z8 e=> ?_,fun k z1 hn=> ?_,h.geo,fun k z1 hn=> ?_,fun j hj=> ?_⟩
 ·rw[za]
  congr 2
  refine xX fun k=> ?_;by_cases z1:k<n
  ·rw[Fl _ _ z1];by_cases e:k=i
   ·subst e;rw[zU (by rw[Ip];exact z1)];simp[A1]
   ·rw[zH (fun e'=>e e'.symm),Fl _ _ z1];simp[e]
  ·rw[xA (by rw[List.length_set,Ip];omega),xA (by rw[Ip];omega)]
 ·by_cases e:k=i
  ·subst e;simpa using z6
  ·simp only[e,if_false]at hn ⊢;rw[hk _ (lL k z1 hn) (h.ne k z1 hn) (fun zb e'=>e (h.inj k i z1 hi hn zb e'))];exact h.leaf k z1 hn
 ·by_cases e1:k=i
  ·by_cases e2:k'=i
   ·rw[e1,e2]
   ·simp only[e1,e2,if_true,if_false]at e z8;have:=lL k' z7 z8;omega
  ·by_cases e2:k'=i
   ·simp only[e1,e2,if_true,if_false]at e hn;have:=lL k z1 hn;omega
   ·simp only[e1,e2,if_false]at e hn z8;exact h.inj k k' z1 z7 hn z8 e
 ·by_cases e:k=i
  ·simp only[e,if_true];omega
  ·simp only[e,if_false]at hn ⊢;exact h.ne k z1 hn
 ·have zd:=h.geo;by_cases e:k=i
  ·simp only[e,if_true];omega
  ·simp only[e,if_false]at hn ⊢;exact h.geL k z1 hn
 ·have ze:=h.geo;rw[hk j (by omega) (by omega) (fun zb e=>by have:=h.geL i hi zb;omega)];exact h.keep j hj
def B1(n:Nat)(L:Nat→Nat)(rs:Nat→List Mv)(k:Nat):List AV:=(yW n).map fun i=>if i<k∧rs i≠[]then T7 (rs i)else A1 (L i) (rs i)
section
variable {P:Program} [Env P] {nt kk:Nat} {cd:Code} {Q:Exit→AS→Prop}
theorem v0c(n:Nat)(L:Nat→Nat)(rs:Nat→List Mv):B1 n L rs 0=G6 n L rs:=by unfold B1 G6;exact xP fun i _=>by rw[if_neg (by omega)]
theorem q1a{n:Nat}{L:Nat→Nat}{rs:Nat→List Mv}{k:Nat}(h:rs k=[]):B1 n L rs (k+1)=B1 n L rs k:=by
 unfold B1;refine xP fun i _=> ?_;by_cases e:i=k
 ·subst e;simp[h]
 ·by_cases h2:i<k
  ·simp[h2,show i<k+1 by omega]
  ·simp[h2,show ¬i<k+1 by omega]
theorem y1u{i c:Nat}{ys:List AV}{xs:List Mv}{p:Nat}(h:xs=[]∨p≠i):(A1 p xs).fz i c ys=A1 p xs:=by
 unfold A1;split
 ·simp[AV.fz]
 ·rw[AV.fz,if_neg];rintro⟨e,_⟩;rcases h with h|h
  ·contradiction
  ·exact h e
theorem v0t{n:Nat}{L:Nat→Nat}{rs:Nat→List Mv}(z1:∀k k',k<n→k'<n→rs k≠[]→rs k'≠[]→L k=L k'→k=k'){k:Nat}(hk:k<n)(h:rs k≠[]):
  (B1 n L rs k).map (AV.fz (L k) 3 ((rs k).map encMv))=B1 n L rs (k+1):=by
 unfold B1;rw[vC];refine xP fun i hi=> ?_;have z6:=xH.1 hi;simp only[Function.comp_apply];by_cases e:i=k
 ·subst e;simp only[Nat.lt_irrefl,false_and,if_false];rw[if_pos ⟨by omega,h⟩,A1,if_neg h,AV.fz,if_pos ⟨rfl,rfl,by simp⟩];simp[T7,zZ]
 ·by_cases h2:i<k∧rs i≠[]
  ·rw[if_pos h2,if_pos ⟨by omega,h2.2⟩];simp[T7,AV.fz]
  ·rw[if_neg h2,if_neg (fun h3=>h2 ⟨by omega,h3.2⟩)];refine y1u ?_;by_cases hr:rs i=[]
   ·exact .inl hr
   ·exact .inr fun e2=>e (z1 i k z6 hk hr h e2)
theorem MR.freeze {n o:Nat} {rs:Nat→List Mv} {L:Nat→Nat} {sl:List (Nat×AV)} (z1:∀k k',k<n→k'<n→rs k≠[]→rs k'≠[]→L k=L k'→k=k') (z7:∀k,k<n→rs k≠[]→L k≠o)
  (zb:∀k,k<n→rs k≠[]→sl.map (fun p=>(p.1,p.2.fz (L k) 3 ((rs k).map encMv)))=sl):∀(d k:Nat) (H:List AObj),k+d=n→H[o]? =some (.va 23 1 (B1 n L rs k))→(∀i,k≤i→i<n→rs i≠[]→H[L i]? =some (.arr 78 3 ((rs i).map encMv)))→
  (∀H',H'[o]? =some (.va 23 1 (B1 n L rs n))→(∀j,j<H.length→j≠o→(∀i,k≤i→i<n→rs i≠[]→j≠L i)→H'[j]? =H[j]?)→AWP P nt kk cd Q ⟨sl,H'⟩)→AWP P nt kk cd Q ⟨sl,H⟩
 |0,k,H,hd,ho,hl,h=>by
  have:k=n:=by omega
  subst this;exact h H ho fun _ _ _ _=>rfl
 |d+1,k,H,hd,ho,hl,h=>by
  by_cases hr:rs k=[]
  ·refine MR.freeze z1 z7 zb d (k+1) H (by omega) (by rw[q1a hr];exact ho) (fun i hi=>hl i (by omega)) fun H' zc zd=>h H' zc fun j hj z8 za=>zd j hj z8 fun i hi=>za i (by omega)
  ·have z6:k<n:=by omega
   have zg:=z7 k z6 hr;have zh:=hl k (zV _) z6 hr;refine U6 (L k) zh o ho (Ne.symm zg) rfl ?_;rw[zb k z6 hr];have zi:=Qi ho;have e:AObj.fz (L k) 3 ((rs k).map encMv) (.va 23 1 (B1 n L rs k))= .va 23 1 (B1 n L rs (k+1)):=by rw[AObj.fz,v0t z1 z6 hr]
   rw[e];refine MR.freeze z1 z7 zb d (k+1) _ (by omega) (zU (by simpa using zi)) (fun i hi ze zf=> ?_) fun H' zc zd=>h H' zc fun j hj z8 za=> ?_
   ·rw[zH (Ne.symm (z7 i ze zf)),zH (fun e2=>by have:=z1 k i z6 ze hr zf e2;omega)];exact hl i (by omega) ze zf
   ·rw[zd j (by simpa using hj) z8 fun i hi=>za i (by omega),zH (Ne.symm z8),zH (Ne.symm (za k (zV _) z6 hr))]
end
theorem u1p(n:Nat)(L:Nat→Nat)(rs:Nat→List Mv):(B1 n L rs n).all (fun x=>x.cells.all AV.pure)=true∧(B1 n L rs n).map AV.nrm=(yW n).map fun k=>T7 (rs k):=by
 have hc:∀i,i<n→(if i<n∧rs i≠[]then T7 (rs i)else A1 (L i) (rs i))=if rs i=[]then .nils else T7 (rs i):=fun i hi=>by
  by_cases hr:rs i=[]
  ·rw[if_neg (fun h=>h.2 hr),if_pos hr,A1,if_pos hr]
  ·rw[if_pos ⟨hi,hr⟩,if_neg hr]
 have e:B1 n L rs n=(yW n).map fun i=>if rs i=[]then .nils else T7 (rs i):=xP fun i hi=>hc i (xH.1 hi)
 rw[e];constructor
 ·rw[List.all_map,List.all_eq_true];intro i _;simp only[Function.comp_apply];split
  ·simp[AV.cells,AV.pure]
  ·simp[T7,AV.cells,AV.pure]
 ·rw[vC];refine xP fun i _=> ?_;simp only[Function.comp_apply];split
  ·rename_i h;rw[h];simp[T7,AV.nrm]
  ·simp[T7,AV.nrm]
attribute [local irreducible] Tz En Q8
theorem Rw(a:Aut)(ha:OkA a):PC Tryz.prog 81 [encA a] (fun r=>r=Eh a):=by
 refine Ql tOk Tryz.func81 rfl Tryz.results81 rfl (by simp[Tryz.ntmps81]) ?_;rw[Tryz.ntmps81];simp only[Qf];simp only[encA];have y4:=ha.fin;have yf:=ha.mvs;repeat first|(refine r_ ?_;simp)|refine q_ ?_
 refine Iu (P:=Tryz.prog) tOk mixed [7] (.val 0 (.val 1 (.val 2 (.val 3 (.two 4 (.val 5 (.one 6 (.one 7 (.done)))) 6 (.one 4 (.val 5 (.one 7 (.done))))))))) (fun S'=>∃o c:Nat,o≠c∧2≤o∧2≤c∧S'.hp[0]? =some (.vars (Wb a))∧S'.hp[1]? =some (.vars [.i 0,.nils,.nils,.nils])∧S'.hp[o]? =some (.arr 23 1 (List.replicate a.fin.length .nils))∧S'.hp[c]? =some (.vars [.i a.types,.list (a.fin.map .bool),.list (a.mv.map encMv),.sl o 1 0 a.fin.length])∧look S'.sl 1=some (.vptr 0 0)∧look S'.sl 2=some (.vptr 1 0)∧look S'.sl 3=some (.vptr c 0)) rfl (by kernel_rfl) ?_ ?_
 ·simp
  repeat' (first
   |refine And.intro ?_ ?_
   |(refine Wn tOk rfl rfl rfl z2h rfl T23 rfl rfl rfl (n:=a.fin.length) (by simp;omega) (by unfold maxLen;omega) .nils rfl ?_;simp))
  ·exact⟨2,3,by simp[Wb]⟩
  ·exact⟨3,2,by simp[Wb]⟩
 rintro⟨sl,H⟩ ⟨o,c,zq,y5,yg,h0,h1,ho,hc,s1,s2,s3⟩;simp only at h0 h1 ho hc s1 s2 s3;simp;refine Qx (sl':=[(1,.vptr 0 0),(2,.vptr 1 0),(3,.vptr c 0)]) ?_ (by simp[s1,s2,s3]);refine D6 o ho ?_;refine Q9 fun Z hZ=> ?_;have z0:Z[0]? =some (.vars (Wb a)):=by rw[hZ,zH (by omega)];exact h0
 have zc:Z[c]? =some (.vars [.i a.types,.list (a.fin.map .bool),.list (a.mv.map encMv),.sl o 1 0 a.fin.length]):=by rw[hZ,zH zq];exact hc
 have zM:MR [.vars (Wb a),.vars [.i 0,.nils,.nils,.nils]] a.fin.length o (Tz a 0) (fun _=>0) Z:=by
  refine⟨?_,fun k _ hn=>absurd (Ud a k) hn,fun k _ _ _ hn=>absurd (Ud a k) hn,fun k _ hn=>absurd (Ud a k) hn,by simpa using y5,fun k _ hn=>absurd (Ud a k) hn,fun j hj=> ?_⟩
  ·rw[hZ,zU (Qi ho)]
   congr 2
   rw[eq_comm,List.eq_replicate_iff];refine⟨Ip _ _ _,fun x hx=> ?_⟩;obtain⟨k,_,rfl⟩:=zX.1 hx;simp[A1,Ud]
  ·simp only[y_,tW]at hj;rw[hZ,zH (by omega)];rcases j with _|_|j
   ·exact h0
   ·exact h1
   ·omega
 clear hZ h0 h1 ho hc;clear H;repeat first|(refine r_ ?_;simp[z0])|refine q_ ?_
 refine Qr (Qd (sl':=[(1,.vptr 0 0),(2,.vptr 1 0),(3,.vptr c 0),(15,.list (a.mv.map encMv)),(16,.i a.mv.length),(17,.i (0:Nat))]) ?_ (by simp));refine Qq (F:=fun(u:Nat×(Nat→Nat)×List AObj)=>⟨[(1,.vptr 0 0),(2,.vptr 1 0),(3,.vptr c 0),(15,.list (a.mv.map encMv)),(16,.i a.mv.length),(17,.i u.1)],u.2.2⟩)
  (fun u=>u.1≤a.mv.length∧u.2.2[c]? =some (.vars [.i a.types,.list (a.fin.map .bool),.list (a.mv.map encMv),.sl o 1 0 a.fin.length])∧MR [.vars (Wb a),.vars [.i 0,.nils,.nils,.nils]] a.fin.length o (Tz a u.1) u.2.1 u.2.2) (fun u=>a.mv.length - u.1) ?_ (0,fun _=>0,Z) ⟨wK _,zc,zM⟩
 clear z0 zc zM;clear Z;rintro⟨j,L,G⟩ ⟨hj,gc,gM⟩ ih;simp only at hj gc gM ih ⊢;repeat first|(refine r_ ?_;simp)|refine q_ ?_
 refine Qa rfl (fun y6=> ?_) (fun y7=> ?_)
 ·have zd:j<a.mv.length:=by simpa using y6
  have hw:IntKind.i64.wrap ((j:Int)+1)=j+1:=wrap_i64 _ (by omega) (by omega);have y0:=x0k a zd;have y8:=u0d a j;have zr:=ha.mv _ (zT zd);have zt:=Gw ha (zT zd);have zo:=fun L' G'=>ih (j+1,L',G');simp only at zo;repeat first|(refine r_ ?_;simp[zd])|refine q_ ?_
  generalize a.mv[j]=m at *;refine Qe rfl rfl (by simp) (Ay a.types.toNat m.on m.on zr.on.wf zr.on.wf (fun s hs=>by have:=zt s hs;omega) (fun s hs=>by have:=zt s hs;omega) (by have:=ha.types;omega)) rfl ?_
  rintro _ rfl;simp;rw[Nf zr.on.wf];cases hv:Wo m.on with
  |true=>
   have ze:Tz a (j+1)=Tz a j:=funext fun k=>by rw[y0 k,hv];simp
   rw[ze]at zo;simp[Nc,encSy];repeat first|(refine r_ ?_;simp)|refine q_ ?_
   refine Qm rfl ?_;repeat first|(refine r_ ?_;simp[hw])|refine q_ ?_
   refine Qd (sl':=[(1,.vptr 0 0),(2,.vptr 1 0),(3,.vptr c 0),(15,.list (a.mv.map encMv)),(16,.i a.mv.length),(17,.i (j+1:Nat))]) ?_ (by simp);exact zo L _ ⟨by omega,Qb gc _,gM.grow _⟩ (by omega)
  |false=>
   obtain⟨k,hk⟩:∃k:Nat,m.src=k:=⟨m.src.toNat,by have:=zr.src.1;omega⟩
   have z7:k<a.fin.length:=by have:=zr.src.2;omega
   have ze:Tz a (j+1)=fun k'=>if k'=k then Tz a j k++[m]else Tz a j k':=funext fun k'=>by
    rw[y0 k',hv];by_cases e:k'=k
    ·subst e;simp[hk]
    ·have:¬m.src=(k':Int):=by omega
     simp[e,this]
   rw[ze]at zo;simp[Nc,encSy];repeat first|(refine r_ ?_;simp)|refine q_ ?_
   refine Qm rfl ?_;refine Q9 fun Z hZ=> ?_;have zc:Z[c]? =some (.vars [.i a.types,.list (a.fin.map .bool),.list (a.mv.map encMv),.sl o 1 0 a.fin.length]):=by rw[hZ];exact Qb gc _
   have zM:MR [.vars (Wb a),.vars [.i 0,.nils,.nils,.nils]] a.fin.length o (Tz a j) L Z:=by rw[hZ];exact gM.grow _
   have zm:Z[G.length]? =some (.vars [.i m.src,.i m.dst,.list (m.on.map encL)]):=by rw[hZ,zO (by simp)];simp
   clear hZ gc gM y0 ze;generalize G.length=g at *;clear G
   have z6:=Fl L (Tz a j) z7;have zj:=Ip a.fin.length L (Tz a j);have z8:=zM.out;have zu:=zM.leaf k z7;rw[hk]at zm;have zb:∀M,(Z++M)[c]? =some (.vars [.i a.types,.list (a.fin.map .bool),.list (a.mv.map encMv),.sl o 1 0 a.fin.length]):=fun M=>Qb zc M;have outA:∀M,(Z++M)[o]? =some (.va 23 1 (G6 a.fin.length L (Tz a j))):=fun M=>Qb z8 M;have zf:∀M,(Z++M)[g]? =some (.vars [.i k,.i m.dst,.list (m.on.map encL)]):=fun M=>Qb zm M;have zk:∀M hh,(Z++M)[c]'hh= .vars [.i a.types,.list (a.fin.map .bool),.list (a.mv.map encMv),.sl o 1 0 a.fin.length]:=fun M hh=>(yJ hh).2 (zb M);have outH:∀M hh,(Z++M)[o]'hh= .va 23 1 (G6 a.fin.length L (Tz a j)):=fun M hh=>(yJ hh).2 (outA M);have zl:∀M hh,(Z++M)[g]'hh= .vars [.i k,.i m.dst,.list (m.on.map encL)]:=fun M hh=>(yJ hh).2 (zf M);repeat first|(refine r_ ?_;simp)|refine q_ ?_
   generalize zv:G6 a.fin.length L (Tz a j)=RC at *
   have yh:=y8 k;generalize zh:Tz a j k=rs at *
   by_cases hr0:rs=[]
   ·rw[A1,if_pos hr0]at z6;have zi:∀hh,RC[k]'hh= .nils:=fun hh=>by rw[zP hh]at z6;exact Option.some.inj z6
    refine Iu (P:=Tryz.prog) tOk mixed [12,14] (.val 0 (.val 2 (.val 4 (.val 5 (.val 6 (.val 7 (.val 8 (.val 9 (.val 10 (.three 1 (.two 3 (.one 11 (.one 12 (.val 13 (.one 14 (.done))))) 11 (.two 3 (.one 12 (.val 13 (.one 14 (.done)))) 12 (.val 3 (.val 13 (.one 14 (.done)))))) 3 (.two 1 (.one 11 (.one 12 (.val 13 (.one 14 (.done))))) 11 (.two 1 (.one 12 (.val 13 (.one 14 (.done)))) 12 (.val 1 (.val 13 (.one 14 (.done)))))) 11 (.three 1 (.two 3 (.one 12 (.val 13 (.one 14 (.done)))) 12 (.val 3 (.val 13 (.one 14 (.done))))) 3 (.two 1 (.one 12 (.val 13 (.one 14 (.done)))) 12 (.val 1 (.val 13 (.one 14 (.done))))) 12 (.val 1 (.val 3 (.val 13 (.one 14 (.done)))))))))))))))) (fun S'=>S'.hp=(Z++[AObj.arr 78 3 [.agg [.i k,.i m.dst,.list (m.on.map encL)]],AObj.arr 78 3 [.agg [.i k,.i m.dst,.list (m.on.map encL)]]]).set o (.va 23 1 (RC.set k (.sl (Z.length+1) 3 0 1)))∧look S'.sl 1=some (.vptr 0 0)∧look S'.sl 2=some (.vptr 1 0)∧look S'.sl 3=some (.vptr c 0)∧look S'.sl 15=some (.list (a.mv.map encMv))∧look S'.sl 16=some (.i a.mv.length)∧look S'.sl 17=some (.i j)) rfl (by kernel_rfl) ?_ ?_
    ·simp[zc,z8,zm,z6,zi,z7,zj,zb,outA,zf,zk,outH,zl]
     repeat' (first
      |refine And.intro ?_ ?_
      |(refine Qh tOk rfl rfl T23 rfl T78 rfl (by decide) (by decide) rfl rfl rfl ?_;simp[zb,outA,zf,zk,outH,zl,z6,zi,z7,zj];refine⟨by simp[Wp]<;>omega,?_⟩;simp[zb,outA,zf,zk,outH,zl,z6,zi,z7,zj]))
    ·rintro⟨sl,E⟩ ⟨rfl,s1,s2,s3,s15,s16,s17⟩;simp only at s1 s2 s3 s15 s16 s17;simp;refine Qx (sl':=[(1,.vptr 0 0),(2,.vptr 1 0),(3,.vptr c 0),(15,.list (a.mv.map encMv)),(16,.i a.mv.length),(17,.i j)]) ?_ (by simp[s1,s2,s3,s15,s16,s17]);repeat first|(refine r_ ?_;simp[hw])|refine q_ ?_
     refine Qd (sl':=[(1,.vptr 0 0),(2,.vptr 1 0),(3,.vptr c 0),(15,.list (a.mv.map encMv)),(16,.i a.mv.length),(17,.i (j+1:Nat))]) ?_ (by simp);have zx:=Qi z8;have za:=zM.put z7 (m:=m) (np:=Z.length+1) (H':=(Z++[AObj.arr 78 3 [.agg [.i k,.i m.dst,.list (m.on.map encL)]],AObj.arr 78 3 [.agg [.i k,.i m.dst,.list (m.on.map encL)]]]).set o (.va 23 1 (RC.set k (.sl (Z.length+1) 3 0 1)))) (by omega)
      (by rw[zU (by simp;omega),zv,zh,hr0];rfl) (by rw[zH (by omega),zO (by omega),zh,hr0];simp[hk]) (fun jj h1 h2 _=>by rw[zH (Ne.symm h2),zI h1])
     rw[zh]at za;exact zo _ _ ⟨by omega,by rw[zH zq];exact zb _,za⟩ (by omega)
   ·rw[A1,if_neg hr0]at z6;have zi:∀hh,RC[k]'hh= .sl (L k) 3 0 rs.length:=fun hh=>by rw[zP hh]at z6;exact Option.some.inj z6
    have zp:=zu hr0;have hlo:=zM.ne k z7 (by rw[zh];exact hr0);have y9:L k≠c:=fun e=>by rw[e,zc]at zp;simp at zp
    have ya:L k≠g:=fun e=>by rw[e,zm]at zp;simp at zp
    have yi:=Qi zp;have zg:∀M,(Z++M)[L k]? =some (.arr 78 3 (rs.map encMv)):=fun M=>Qb zp M;have zn:∀M hh,(Z++M)[L k]'hh= .arr 78 3 (rs.map encMv):=fun M hh=>(yJ hh).2 (zg M);generalize yb:L k=p at *
    have outS:∀M M',((Z++M).set p .dead++M')[o]? =some (.va 23 1 RC):=fun M M'=>Qb (Qc hlo (outA M) _) M';have outSH:∀M M' hh,((Z++M).set p .dead++M')[o]'hh= .va 23 1 RC:=fun M M' hh=>(yJ hh).2 (outS M M');have zw:∀M M',((Z++M).set p .dead++M')[c]? =some (.vars [.i a.types,.list (a.fin.map .bool),.list (a.mv.map encMv),.sl o 1 0 a.fin.length]):=fun M M'=>Qb (Qc y9 (zb M) _) M';have zcSH:∀M M' hh,((Z++M).set p .dead++M')[c]'hh= .vars [.i a.types,.list (a.fin.map .bool),.list (a.mv.map encMv),.sl o 1 0 a.fin.length]:=fun M M' hh=>(yJ hh).2 (zw M M');have zy:∀M M',((Z++M).set p .dead++M')[g]? =some (.vars [.i k,.i m.dst,.list (m.on.map encL)]):=fun M M'=>Qb (Qc ya (zf M) _) M';have zmSH:∀M M' hh,((Z++M).set p .dead++M')[g]'hh= .vars [.i k,.i m.dst,.list (m.on.map encL)]:=fun M M' hh=>(yJ hh).2 (zy M M');refine Iu (P:=Tryz.prog) tOk mixed [12,14] (.val 0 (.val 2 (.val 4 (.val 5 (.val 6 (.val 7 (.val 8 (.val 9 (.val 10 (.three 1 (.two 3 (.one 11 (.one 12 (.val 13 (.one 14 (.done))))) 11 (.two 3 (.one 12 (.val 13 (.one 14 (.done)))) 12 (.val 3 (.val 13 (.one 14 (.done)))))) 3 (.two 1 (.one 11 (.one 12 (.val 13 (.one 14 (.done))))) 11 (.two 1 (.one 12 (.val 13 (.one 14 (.done)))) 12 (.val 1 (.val 13 (.one 14 (.done)))))) 11 (.three 1 (.two 3 (.one 12 (.val 13 (.one 14 (.done)))) 12 (.val 3 (.val 13 (.one 14 (.done))))) 3 (.two 1 (.one 12 (.val 13 (.one 14 (.done)))) 12 (.val 1 (.val 13 (.one 14 (.done))))) 12 (.val 1 (.val 3 (.val 13 (.one 14 (.done)))))))))))))))) (fun S'=>S'.hp=((Z++[AObj.arr 78 3 [.agg [.i k,.i m.dst,.list (m.on.map encL)]]]).set p .dead++[AObj.arr 78 3 (rs.map encMv++[.agg [.i k,.i m.dst,.list (m.on.map encL)]])]).set o (.va 23 1 (RC.set k (.sl (Z.length+1) 3 0 (rs.length+1))))∧look S'.sl 1=some (.vptr 0 0)∧look S'.sl 2=some (.vptr 1 0)∧look S'.sl 3=some (.vptr c 0)∧look S'.sl 15=some (.list (a.mv.map encMv))∧look S'.sl 16=some (.i a.mv.length)∧look S'.sl 17=some (.i j)) rfl (by kernel_rfl) ?_ ?_
    ·simp[zc,z8,zm,z6,zi,z7,zj,zb,outA,zf,zk,outH,zl,zg,zn]
     repeat' (first
      |refine And.intro ?_ ?_
      |(refine Qh tOk rfl rfl T23 rfl T78 rfl (by decide) (by decide) rfl rfl rfl ?_;simp[zb,outA,zf,zk,outH,zl,z6,zi,z7,zj,zg,zn,outS,outSH,zw,zcSH,zy,zmSH];refine⟨by simp[Wp]<;>omega,?_⟩;simp[zb,outA,zf,zk,outH,zl,z6,zi,z7,zj,outS,outSH,zw,zcSH,zy,zmSH])
      |(refine Qh tOk rfl rfl T23 rfl T78 rfl (by decide) (by decide) rfl rfl rfl ?_;simp[zb,outA,zf,zk,outH,zl,z6,zi,z7,zj,zg,zn,outS,outSH,zw,zcSH,zy,zmSH];simp[Wp]<;>omega)
      |omega)
    ·rintro⟨sl,E⟩ ⟨rfl,s1,s2,s3,s15,s16,s17⟩;simp only at s1 s2 s3 s15 s16 s17;simp;refine Qx (sl':=[(1,.vptr 0 0),(2,.vptr 1 0),(3,.vptr c 0),(15,.list (a.mv.map encMv)),(16,.i a.mv.length),(17,.i j)]) ?_ (by simp[s1,s2,s3,s15,s16,s17]);repeat first|(refine r_ ?_;simp[hw])|refine q_ ?_
     refine Qd (sl':=[(1,.vptr 0 0),(2,.vptr 1 0),(3,.vptr c 0),(15,.list (a.mv.map encMv)),(16,.i a.mv.length),(17,.i (j+1:Nat))]) ?_ (by simp);have zx:=Qi z8;have za:=zM.put z7 (m:=m) (np:=Z.length+1) (H':=((Z++[AObj.arr 78 3 [.agg [.i k,.i m.dst,.list (m.on.map encL)]]]).set p .dead++[AObj.arr 78 3 (rs.map encMv++[.agg [.i k,.i m.dst,.list (m.on.map encL)]])]).set o (.va 23 1 (RC.set k (.sl (Z.length+1) 3 0 (rs.length+1))))) (by omega)
      (by rw[zU (by simp;omega),zv,zh]) (by rw[zH (by omega),zO (by simp),zh];simp[hk]) (fun jj h1 h2 h3=>by
       have h4:p≠jj:=fun e=>h3 (by rw[zh];exact hr0) (by rw[yb];exact e.symm);rw[zH (Ne.symm h2),zI (by simp;omega),zH h4,zI h1])
     rw[zh]at za;exact zo _ _ ⟨by omega,by rw[zH zq];exact zw _ _,za⟩ (by omega)
 ·have y1:j=a.mv.length:=by simp at y7;omega
  subst y1;refine Qx (sl':=[(1,.vptr 0 0),(2,.vptr 1 0),(3,.vptr c 0)]) ?_ (by simp);refine MR.freeze (n:=a.fin.length) (o:=o) gM.inj gM.ne (fun k hk hn=>by simp[AV.fz]) a.fin.length 0 G (by omega) (by rw[v0c];exact gM.out) (fun k _ hk hn=>gM.leaf k hk hn) fun H' y2 zz=> ?_;obtain⟨yc,yd⟩:=u1p a.fin.length L (Tz a a.mv.length);have y3:H'[c]? =some (.vars [.i a.types,.list (a.fin.map .bool),.list (a.mv.map encMv),.sl o 1 0 a.fin.length]):=by rw[zz c (Qi gc) (Ne.symm zq) (fun i _ hi hr e=>by have:=gM.leaf i hi hr;rw[←e,gc]at this;simp at this)];exact gc
  have yj:H'[0]? =some (.vars (Wb a)):=by rw[zz 0 (by have:=Qi gM.out;omega) (by omega) (fun i _ hi hr e=>by have:=gM.geL i hi hr;simp at this;omega)];exact gM.keep 0 (by simp)
  have ye:H'[1]? =some (.vars [.i 0,.nils,.nils,.nils]):=by rw[zz 1 (by have:=Qi gM.out;omega) (by omega) (fun i _ hi hr e=>by have:=gM.geL i hi hr;simp at this;omega)];exact gM.keep 1 (by simp)
  have zx:=Qi y2;clear zz ih gM gc;refine Im o y2 yc ?_;refine z0e o (zU zx) ?_;rw[yd,List.set_set];refine We o (zU zx) c (by rw[zH zq];exact y3) ?_;refine Q9 fun Z hZ=> ?_;have zc:Z[c]? =some (.vars (Q0 a)):=by rw[hZ,zU (by simpa using Qi y3)];simp[AV.fz,Q0,Rz,j0e];rw[zZ (by simp)]
  have z1:Z[1]? =some (.vars [.i 0,.nils,.nils,.nils]):=by rw[hZ,zH (by omega),zH (by omega),zH (by omega)];exact ye
  clear hZ;simp[AV.fz];unfold Eh Q0;unfold Q0 at zc;repeat first|(refine r_ ?_;simp[zc,z1,Qg z1])|refine q_ ?_
end Go.Abs
namespace Go.Abs
open Go Go.Proofs Go.Maps Go.RowKit
abbrev Stp:=Sy×(Int×Int)
def y1o(e:Stp):AV:= .agg [.i e.1.ty,.i e.1.num,.i e.2.1,.i e.2.2]
theorem Kz(a b:Aut)(p q:Int):PC Tryz.prog 105 [Eh a,Eh b,.i p,.i q] (fun r=>r= .fn (.func 164) [] [.iptr (Q0 a),.iptr [.i p],.iptr (Q0 b),.iptr [.i q]]):=by refine Ql tOk Tryz.func105 rfl Tryz.results105 rfl (by simp[Tryz.ntmps105]) ?_;rw[Tryz.ntmps105];simp only[Qf];simp only[Eh,Q0];repeat first|(refine r_ ?_;simp)|refine q_ ?_
def Zv(b:Aut)(q:Int)(m:Mv)(j:Nat):List Stp:=((Q8 b q).take j).filterMap fun n=>(En m.on n.on).map fun x=>(x,(m.dst,n.dst))
def Oh(a b:Aut)(s:Int×Int)(i:Nat):List Stp:=((Q8 a s.1).take i).flatMap fun m=>Zv b s.2 m (Q8 b s.2).length
theorem Xo(a b:Aut)(s:Int×Int):Oh a b s (Q8 a s.1).length=Wh a b s:=by rw[q1g,Oh,xD];unfold Zv;rw[xD]
theorem y05(a b:Aut)(s:Int×Int):Oh a b s 0=[]:=by simp[Oh]
theorem d0s(b:Aut)(q:Int)(m:Mv):Zv b q m 0=[]:=by simp[Zv]
theorem y08(a b:Aut)(s:Int×Int){i:Nat}(h:i<(Q8 a s.1).length):Oh a b s (i+1)=Oh a b s i++Zv b s.2 (Q8 a s.1)[i] (Q8 b s.2).length:=by unfold Oh;rw[z_ h,wP];simp
theorem v0x(b:Aut)(q:Int)(m:Mv){j:Nat}(h:j<(Q8 b q).length):Zv b q m (j+1)=Zv b q m j++(match En m.on (Q8 b q)[j].on with|some x=>[(x,(m.dst,(Q8 b q)[j].dst))]|none=>[]):=by
 unfold Zv;rw[z_ h,th]
 congr 1
 cases hx:En m.on (Q8 b q)[j].on<;>simp[hx]
theorem w1k(b:Aut)(q:Int)(m:Mv)(j:Nat):∃r,Zv b q m (Q8 b q).length=Zv b q m j++r:=by refine⟨((Q8 b q).drop j).filterMap fun n=>(En m.on n.on).map fun x=>(x,(m.dst,n.dst)),?_⟩;unfold Zv;rw[←th,wd,xD]
theorem d0h(a b:Aut)(s:Int×Int)(i:Nat):∃r,Wh a b s=Oh a b s i++r:=by refine⟨((Q8 a s.1).drop i).flatMap fun m=>Zv b s.2 m (Q8 b s.2).length,?_⟩;rw[←Xo];unfold Oh;rw[←wP,wd,xD]
theorem Zk{a:Aut}{s:Int}(h:inS a s):(Rz a)[s.toNat]? =some (T7 (Q8 a s)):=by have:=Fk h;unfold Rz;rw[yI,List.getElem?_range this.1];simp[this.2]
theorem Bu{a:Aut}(ha:OkA a){s:Int}{m:Mv}(hm:m∈Q8 a s):PWf a.types.toNat m.on∧∀t∈m.on,t.length≤256:=by have:=(Wu.1 hm).1;exact⟨ha.wfA.on m this,Gw ha this⟩
theorem Dw(a:Aut)(s:Int):(Q8 a s).length≤a.mv.length:=xW _ _
attribute [local irreducible] Q8 En Zv Oh Rz Wh
theorem G4 (a b:Aut) (ha:OkA a) (hb:OkA b) (ht:b.types=a.types) (p q:Int) (hp:inS a p) (hq:inS b q) (l:Nat) {z8:Nat} {sl':List (Nat×AV)} {ps:List Tmp} {asg body:Code} (y4:ps.length=1) (y5:(ps.all fun p=>decide (p<z8))=true)
  (Inv:List Stp→List AObj→Prop) (Done:Code→List AObj→Prop) (H0:List AObj)
  (hI:∀k H,Inv k H→H[l]? =some (.lp true none z8 sl' ps asg body))
  (z7:∀k H L,Inv k H→Inv k (H++L))
  (zb:∀pre e post H,Wh a b (p,q)=pre++e::post→Inv pre H→H0.length≤H.length→AWP Tryz.prog z8 H.length asg (Ah (AWP Tryz.prog z8 H.length body (v0j l (fun jm K2=>(jm=none∧Inv (pre++[e]) (K2.set l (.lp true none z8 sl' ps asg body))∧∀i cs,H0.length≤i→H[i]? =some (.vars cs)→(K2.set l (.lp true none z8 sl' ps asg body))[i]? =some (.vars cs))∨∃c,jm=some c∧Done c (K2.set l (.lp false (some c) z8 sl' ps asg body))))) (fun _ _=>False)) ⟨Ty sl' ps [y1o e],H.set l .dead⟩)
  (h0:Inv [] H0):FC Tryz.prog 164 [.yld l,.iptr (Q0 a),.iptr [.i p],.iptr (Q0 b),.iptr [.i q]] H0 (fun _ H'=>Inv (Wh a b (p,q)) H'∨∃c,Done c H'):=by
 refine W5 tOk Tryz.func164 rfl Tryz.results164 rfl (by simp[Tryz.ntmps164]) ?_;rw[Tryz.ntmps164];simp only[Qf];have zk:=Zk hp;have zl:=Zk hq;have yv:=Fk hp;have yw:=Fk hq;have y6:=Dw a p;have y7:=Dw b q;have yx:=ha.mvs;have yy:=hb.mvs;have y8:=hp.1;have y9:=hq.1;have ya:(Rz a).length=a.fin.length:=by unfold Rz;simp
 have yb:(Rz b).length=b.fin.length:=by unfold Rz;simp
 have yc:=hp.2;have yd:=hq.2;simp only[Q0,T7]at zk zl ⊢;have zn:∀hh,(Rz a)[p.toNat]'hh= .list ((Q8 a p).map encMv):=fun hh=>by rw[zP hh]at zk;exact Option.some.inj zk
 have zo:∀hh,(Rz b)[q.toNat]'hh= .list ((Q8 b q).map encMv):=fun hh=>by rw[zP hh]at zl;exact Option.some.inj zl
 repeat first|(refine r_ ?_;simp[zk,zn,y8,yc,ya])|refine q_ ?_
 have ye:(b.types).toNat=a.types.toNat:=by rw[ht]
 refine Qr (Qd (sl':=[(0,.yld l),(1,.iptr [.i a.types,.list (a.fin.map .bool),.list (a.mv.map encMv),.list (Rz a)]),(2,.iptr [.i p]),(3,.iptr [.i b.types,.list (b.fin.map .bool),.list (b.mv.map encMv),.list (Rz b)]),(4,.iptr [.i q]),(16,.list ((Q8 a p).map encMv)),(17,.i (Q8 a p).length),(18,.i (0:Nat))]) ?_ (by simp));have zp:Oh a b (p,q) (Q8 a p).length=Wh a b (p,q):=Xo a b (p,q);have zg:=fun i h=>y08 a b (p,q) (i:=i) h;have zc:=fun m j h=>v0x b q m (j:=j) h;have zh:=fun m j=>w1k b q m j;have zi:=fun i=>d0h a b (p,q) i;have hz:Oh a b (p,q) 0=[]:=y05 a b (p,q);have yf:∀m,Zv b q m 0=[]:=fun m=>d0s b q m;refine Qq (F:=fun(u:Nat×List AObj)=>⟨[(0,.yld l),(1,.iptr [.i a.types,.list (a.fin.map .bool),.list (a.mv.map encMv),.list (Rz a)]),(2,.iptr [.i p]),(3,.iptr [.i b.types,.list (b.fin.map .bool),.list (b.mv.map encMv),.list (Rz b)]),(4,.iptr [.i q]),(16,.list ((Q8 a p).map encMv)),(17,.i (Q8 a p).length),(18,.i u.1)],u.2⟩)
  (fun u=>u.1≤(Q8 a p).length∧Inv (Oh a b (p,q) u.1) u.2∧H0.length≤u.2.length) (fun u=>(Q8 a p).length - u.1) ?_ (0,H0) ⟨by simp,by rw[hz];exact h0,zV _⟩
 rintro⟨i,H⟩ ⟨hi,hv,zw⟩ ih;simp only at hi hv zw ih ⊢;repeat first|(refine r_ ?_;simp)|refine q_ ?_
 refine Qa rfl (fun yg=> ?_) (fun yh=> ?_)
 ·have za:i<(Q8 a p).length:=by simpa using yg
  have hw:IntKind.i64.wrap ((i:Int)+1)=i+1:=wrap_i64 _ (by omega) (by omega);have zy:=zg i za;obtain⟨yi,yj⟩:=Bu ha (zT za);have yk:∃r,Wh a b (p,q)=(Oh a b (p,q) i++Zv b q (Q8 a p)[i] (Q8 b q).length)++r:=by obtain⟨r,hr⟩:=zi (i+1);exact⟨r,by rw[hr,zy]⟩
  have zd:((Q8 a p).map encMv)[i]? =some (encMv (Q8 a p)[i]):=by simp[za]
  have ze:∀hh,((Q8 a p).map encMv)[i]'hh=encMv (Q8 a p)[i]:=fun hh=>by simp
  have zz:=fun H'=>ih (i+1,H');simp only[zy]at zz;generalize (Q8 a p)[i]=m at *
  have yl:=zc m;have ym:=zh m;have yn:=yf m;simp only[encMv]at zd ze;have zq:=z7 _ H [.vars [.i m.src,.i m.dst,.list (m.on.map encL)]] hv;repeat first|(refine r_ ?_;simp[zl,zo,y9,yd,yb,zd,ze,za])|refine q_ ?_
  refine Q9 fun Z hZ=> ?_;have zx:Z[H.length]? =some (.vars [.i m.src,.i m.dst,.list (m.on.map encL)]):=by rw[hZ,zO (by simp)];simp
  rw[←hZ]at zq;clear hZ hv zd ze;generalize H.length=x at *;clear H;refine Qr (Qd (sl':=[(0,.yld l),(1,.iptr [.i a.types,.list (a.fin.map .bool),.list (a.mv.map encMv),.list (Rz a)]),(2,.iptr [.i p]),(3,.iptr [.i b.types,.list (b.fin.map .bool),.list (b.mv.map encMv),.list (Rz b)]),(4,.iptr [.i q]),(7,.vptr x 0),(16,.list ((Q8 a p).map encMv)),(17,.i (Q8 a p).length),(18,.i i),(26,.list ((Q8 b q).map encMv)),(27,.i (Q8 b q).length),(28,.i (0:Nat))]) ?_ (by simp))
  refine Qq (F:=fun(u:Nat×List AObj)=>⟨[(0,.yld l),(1,.iptr [.i a.types,.list (a.fin.map .bool),.list (a.mv.map encMv),.list (Rz a)]),(2,.iptr [.i p]),(3,.iptr [.i b.types,.list (b.fin.map .bool),.list (b.mv.map encMv),.list (Rz b)]),(4,.iptr [.i q]),(7,.vptr x 0),(16,.list ((Q8 a p).map encMv)),(17,.i (Q8 a p).length),(18,.i i),(26,.list ((Q8 b q).map encMv)),(27,.i (Q8 b q).length),(28,.i u.1)],u.2⟩)
   (fun u=>u.1≤(Q8 b q).length∧Inv (Oh a b (p,q) i++Zv b q m u.1) u.2∧u.2[x]? =some (.vars [.i m.src,.i m.dst,.list (m.on.map encL)])) (fun u=>(Q8 b q).length - u.1) ?_ (0,Z) ⟨by simp,by rw[yn,xS];exact zq,zx⟩
  clear zx zq;clear Z;rintro⟨j,G⟩ ⟨hj,gv,gx⟩ ih2;simp only at hj gv gx ih2 ⊢;repeat first|(refine r_ ?_;simp)|refine q_ ?_
  refine Qa rfl (fun zr=> ?_) (fun zt=> ?_)
  ·have z1:j<(Q8 b q).length:=by simpa using zr
   have y0:IntKind.i64.wrap ((j:Int)+1)=j+1:=wrap_i64 _ (by omega) (by omega);have y1:=yl j z1;obtain⟨yo,yp⟩:=Bu hb (zT z1);obtain⟨r1,zm⟩:=ym (j+1);obtain⟨r2,yq⟩:=yk;have zd:((Q8 b q).map encMv)[j]? =some (encMv (Q8 b q)[j]):=by simp[z1]
   have ze:∀hh,((Q8 b q).map encMv)[j]'hh=encMv (Q8 b q)[j]:=fun hh=>by simp
   have z6:=fun H'=>ih2 (j+1,H');rw[y1]at zm;simp only[y1]at z6;generalize (Q8 b q)[j]=n at *;simp only[encMv]at zd ze
   have zf:∀M,(G++M)[x]? =some (.vars [.i m.src,.i m.dst,.list (m.on.map encL)]):=fun M=>Qb gx M;have zu:∀M hh,(G++M)[x]'hh= .vars [.i m.src,.i m.dst,.list (m.on.map encL)]:=fun M hh=>(yJ hh).2 (zf M);repeat first|(refine r_ ?_;simp[zd,ze,z1,zf,zu])|refine q_ ?_
   refine Qe rfl rfl (by simp) (Ay a.types.toNat m.on n.on yi (by rw[←ye];exact yo) (fun s hs=>by have:=yj s hs;omega) (fun s hs=>by have:=yp s hs;omega) (by have:=ha.types;omega)) rfl ?_;rintro _ rfl;simp;cases hx:En m.on n.on with
   |none=>
    rw[hx]at zm z6;simp only[xS]at z6;simp[Nc,encSy];repeat first|(refine r_ ?_;simp[zf,zu])|refine q_ ?_
    refine Q6 rfl rfl ?_;simp;repeat first|(refine r_ ?_;simp)|refine q_ ?_
    refine Qa rfl (fun h=>by cases h) (fun _=> ?_);repeat first|(refine r_ ?_;simp[y0])|refine q_ ?_
    refine Qd (sl':=[(0,.yld l),(1,.iptr [.i a.types,.list (a.fin.map .bool),.list (a.mv.map encMv),.list (Rz a)]),(2,.iptr [.i p]),(3,.iptr [.i b.types,.list (b.fin.map .bool),.list (b.mv.map encMv),.list (Rz b)]),(4,.iptr [.i q]),(7,.vptr x 0),(16,.list ((Q8 a p).map encMv)),(17,.i (Q8 a p).length),(18,.i i),(26,.list ((Q8 b q).map encMv)),(27,.i (Q8 b q).length),(28,.i (j+1:Nat))]) ?_ (by simp);exact z6 _ ⟨by omega,z7 _ _ _ gv,zf _⟩ (by omega)
   |some y=>
    rw[hx]at zm z6;simp[Nc,encSy];repeat first|(refine r_ ?_;simp[zf,zu])|refine q_ ?_
    have y2:=z7 _ G [.vars [.i n.src,.i n.dst,.list (n.on.map encL)],.vars [.i y.ty,.i y.num]] gv;have y3:=zf [.vars [.i n.src,.i n.dst,.list (n.on.map encL)],.vars [.i y.ty,.i y.num]];have yr:H0.length≤(G++[AObj.vars [.i n.src,.i n.dst,.list (n.on.map encL)],AObj.vars [.i y.ty,.i y.num]]).length:=by have:=Qi y3;omega
    have i1:=hI _ _ y2;have yt:=zb (Oh a b (p,q) i++Zv b q m j) (y,(m.dst,n.dst)) (r1++r2) _ (by rw[yq,zm];simp) y2 yr;generalize G++[AObj.vars [.i n.src,.i n.dst,.list (n.on.map encL)],AObj.vars [.i y.ty,.i y.num]]=Y at *;refine Pf rfl rfl (q:=l) rfl rfl i1 y4 y5 rfl (fun jm K2=>(jm=none∧Inv (Oh a b (p,q) i++Zv b q m j++[(y,(m.dst,n.dst))]) (K2.set l (.lp true none z8 sl' ps asg body))∧∀i cs,H0.length≤i→Y[i]? =some (.vars cs)→(K2.set l (.lp true none z8 sl' ps asg body))[i]? =some (.vars cs))∨∃c,jm=some c∧Done c (K2.set l (.lp false (some c) z8 sl' ps asg body))) ?_ ?_
    ·exact yt
    ·rintro jm K2 (⟨rfl,hK,yu⟩|⟨c,rfl,hD⟩)
     ·simp;repeat first|(refine r_ ?_;simp)|refine q_ ?_
      refine Qa rfl (fun h=>by cases h) (fun _=> ?_);repeat first|(refine r_ ?_;simp[y0])|refine q_ ?_
      refine Qd (sl':=[(0,.yld l),(1,.iptr [.i a.types,.list (a.fin.map .bool),.list (a.mv.map encMv),.list (Rz a)]),(2,.iptr [.i p]),(3,.iptr [.i b.types,.list (b.fin.map .bool),.list (b.mv.map encMv),.list (Rz b)]),(4,.iptr [.i q]),(7,.vptr x 0),(16,.list ((Q8 a p).map encMv)),(17,.i (Q8 a p).length),(18,.i i),(26,.list ((Q8 b q).map encMv)),(27,.i (Q8 b q).length),(28,.i (j+1:Nat))]) ?_ (by simp);exact z6 _ ⟨by omega,by rw[←xZ];exact hK,yu x _ zw y3⟩ (by omega)
     ·simp;repeat first|(refine r_ ?_;simp)|refine q_ ?_
      refine Qa rfl (fun _=> ?_) (fun h=>by cases h);repeat first|(refine r_ ?_;simp)|refine q_ ?_
      exact .inr ⟨c,hD⟩
  ·have zj:j=(Q8 b q).length:=by simp at zt;omega
   subst zj;repeat first|(refine r_ ?_;simp[hw])|refine q_ ?_
   refine Qd (sl':=[(0,.yld l),(1,.iptr [.i a.types,.list (a.fin.map .bool),.list (a.mv.map encMv),.list (Rz a)]),(2,.iptr [.i p]),(3,.iptr [.i b.types,.list (b.fin.map .bool),.list (b.mv.map encMv),.list (Rz b)]),(4,.iptr [.i q]),(16,.list ((Q8 a p).map encMv)),(17,.i (Q8 a p).length),(18,.i (i+1:Nat))]) ?_ (by simp);exact zz G ⟨by omega,gv,by have:=Qi gx;omega⟩ (by omega)
 ·have zv:i=(Q8 a p).length:=by simp at yh;omega
  subst zv;rw[zp]at hv;repeat first|(refine r_ ?_;simp)|refine q_ ?_
  exact .inl hv
end Go.Abs
namespace Go.Abs
open Go Go.Proofs Go.Maps Go.RowKit
theorem N3:(Tryz.prog).underlying 135=some (.array 2 3):=by kernel_rfl
theorem u1d:(Tryz.prog).underlying 3=some (.int .i64):=by kernel_rfl
theorem Mj:(Tryz.prog).cellsOf 135=2:=by kernel_rfl
theorem k0q:(Tryz.prog).cellsOf 3=1:=by kernel_rfl
theorem k1e:(Tryz.prog).keyType 135=true:=by kernel_rfl
theorem d0f:laidOutB Tryz.prog=true:=by kernel_rfl
theorem u1e:(Tryz.prog).keyTypeAt 3 135=true:=by kernel_rfl
theorem x1e:135<(Tryz.prog).types.size:=of_decide_eq_true (by kernel_rfl)
theorem Zc:Keyed Tryz.prog 135:=Keyed.of_law (deep_law_laid d0f (m:=3) (by decide) x1e u1e (by rw[N3]))
def kyP(s:Int×Int):AV:= .agg [.i s.1,.i s.2]
def okK(s:Int×Int):Prop:=(0≤s.1∧s.1≤1000000)∧(0≤s.2∧s.2≤1000000)
theorem Bq{s t:Int×Int}(h:kyP s=kyP t):s=t:=by unfold kyP at h;simp at h;exact Prod.ext h.1 h.2
theorem keyLits_int(d:Nat){z:Int}(h:0≤z∧z≤1000000):(Tryz.prog).keyLits (d+1) 3 [.int .i64 z]=some [.int .i64 z]:=by unfold Program.keyLits;rw[u1d];simp[x1t h]
theorem z0j(d:Nat){s:Int×Int}(h:okK s):(Tryz.prog).keyLits (d+2) 135 [.int .i64 s.1,.int .i64 s.2]=some [.int .i64 s.1,.int .i64 s.2]:=by unfold Program.keyLits;rw[N3];simp only[Mj,k0q,y_,tW,if_true];have h1:=keyLits_int d h.1;have h2:=keyLits_int d h.2;simp[wT,h1,h2]
theorem types_size:∃d,(Tryz.prog).types.size+1=d+2:=⟨(Tryz.prog).types.size - 1,by have:=x1e;omega⟩
theorem Dq{s:Int×Int}(h:okK s):isKey Tryz.prog 135 (kyP s):=by
 refine⟨.agg #[.int .i64 s.1,.int .i64 s.2],.string (keyBytes [.int .i64 s.1,.int .i64 s.2]),rfl,?_⟩;obtain⟨d,hd⟩:=types_size;unfold keyOf;rw[N3];simp only;have hf:Value.formed Tryz.prog 135 (.agg #[.int .i64 s.1,.int .i64 s.2])=true:=by unfold Value.formed;rw[N3,Mj];rfl
 rw[k1e,hf,hd];have:(Value.agg #[.int .i64 s.1,.int .i64 s.2]).cells.toList=[.int .i64 s.1,.int .i64 s.2]:=rfl;rw[this,z0j d h];rfl
abbrev Ir:=List ((Int×Int)×Nat)
def kvN(near:Ir):List (AV×AV):=near.map fun e=>(kyP e.1,.i e.2)
def mpN(near:Ir):AObj:= .mp (kvN near)
structure NK (near:Ir):Prop where
 nd:(near.map (·.1)).Nodup
 ok:∀e∈near,okK e.1
theorem v0a{near:Ir}(h:NK near){j:Nat}{e:(Int×Int)×Nat}(he:near[j]? =some e):lkN near e.1=some e.2:=by
 unfold lkN;cases hf:near.find? (fun e'=>decide (e'.1=e.1))with
 |none=>rw[List.find?_eq_none]at hf;have:=hf e (zL he);simp at this
 |some e'=>
  have h1:e'.1=e.1:=by simpa using List.find?_some hf
  have h2:=List.mem_of_find?_eq_some hf;obtain⟨i,hi,rfl⟩:=List.getElem_of_mem h2;obtain⟨hj,rfl⟩:=List.getElem?_eq_some_iff.1 he;have h3:i=j:=by have:=(List.getElem_inj (h₀:=by simpa using hi) (h₁:=by simpa using hj) h.nd).1 (by simpa using h1);exact this
  subst h3;rfl
theorem Ng{near:Ir}(h:NK near):∀p∈kvN near,isKey Tryz.prog 135 p.1:=fun p hp=>by obtain⟨e,he,rfl⟩:=zX.1 hp;exact Dq (h.ok e he)
section
variable {nt k:Nat} {S:AS} {ops:Array Oper} {o:Oper} {R:AS→Prop}
theorem Yv {wr:Bool} (hw:Q3 ops S o=some true) (hd:Wy nt o=true) {x ix:Operand} (ho:o.op= .lookup 132 x ix true) {id:Nat} (hx:rho S.sl x=some (.mref id)) {s:Int×Int} (z1:rho S.sl ix=some (.agg [.i s.1,.i s.2])) {near:Ir} (z6:S.hp[id]? =some (mpN near)) (hn:NK near) (hs:okK s)
  (hR:R (S.putD o.dst (.tup [.i ((lkN near s).getD 0:Nat),.bool (lkN near s).isSome]))):Wq Tryz.prog nt k wr ops o S R:=by
 refine Y9 tOk hw hd ho q2g rfl T3 Zc hx z1 z6 (Dq hs) (Ng hn) (z:= .i 0) rfl (fun j p hp he=> ?_) (fun z7=> ?_)
 ·unfold kvN at hp;rw[yI]at hp;obtain⟨e,z8,rfl⟩:=zY.1 hp;have za:e.1=s:=Bq he;rw[←za,v0a hn z8]at hR;exact hR
 ·have:lkN near s=none:=by rw[Dr];intro hm;obtain⟨e,he,rfl⟩:=zX.1 hm;exact z7 _ (zX.2 ⟨e,he,rfl⟩) rfl
  rw[this]at hR;exact hR
theorem Z9 {wr:Bool} (hw:Q3 ops S o=some true) (hd:Wy nt o=true) {x ix:Operand} (ho:o.op= .lookup 132 x ix false) {id:Nat} (hx:rho S.sl x=some (.mref id)) {s:Int×Int} (z1:rho S.sl ix=some (.agg [.i s.1,.i s.2])) {near:Ir} (z6:S.hp[id]? =some (mpN near)) (hn:NK near) (hs:okK s)
  (hR:R (S.putD o.dst (.i ((lkN near s).getD 0:Nat)))):Wq Tryz.prog nt k wr ops o S R:=by
 refine C1 tOk hw hd ho q2g rfl T3 Zc hx z1 z6 (Dq hs) (Ng hn) (z:= .i 0) rfl (fun j p hp he=> ?_) (fun z7=> ?_)
 ·unfold kvN at hp;rw[yI]at hp;obtain⟨e,z8,rfl⟩:=zY.1 hp;have za:e.1=s:=Bq he;rw[←za,v0a hn z8]at hR;exact hR
 ·have:lkN near s=none:=by rw[Dr];intro hm;obtain⟨e,he,rfl⟩:=zX.1 hm;exact z7 _ (zX.2 ⟨e,he,rfl⟩) rfl
  rw[this]at hR;exact hR
theorem y0z (hw:Q3 ops S o=some true) (hd:Wy nt o=true) {x ix y:Operand} (ho:o.op= .mapUpdate 132 x ix y) {id:Nat} (hx:rho S.sl x=some (.mref id)) {s:Int×Int} (z1:rho S.sl ix=some (.agg [.i s.1,.i s.2])) {d:Nat} (hy:rho S.sl y=some (.i d)) {near:Ir} (z6:S.hp[id]? =some (mpN near)) (hn:NK near) (hs:okK s)
  (z7:s∉near.map (·.1)) (hR:R (({ S with hp:=S.hp.set id (mpN (near++[(s,d)])) }:AS).putD o.dst (.tup []))):Wq Tryz.prog nt k true ops o S R:=by
 refine Yo tOk hw hd ho q2g rfl Zc hx z1 hy (by simp[AV.pure]) z6 (Dq hs) (Ng hn) (fun j p hp he=> ?_) (fun zb=> ?_)
 ·unfold kvN at hp;rw[yI]at hp;obtain⟨e,z8,rfl⟩:=zY.1 hp;have za:e.1=s:=Bq he;exact absurd (zX.2 ⟨e,zL z8,za⟩) z7
 ·have:kvN near++[(kyP s,.i d)]=kvN (near++[(s,d)]):=by simp[kvN]
  unfold mpN at hR;rw[←this]at hR;exact hR
end
end Go.Abs
namespace Go.Abs
open Go Go.Proofs Go.Maps Go.RowKit
theorem v01{a b:Aut}{i j:Nat}(hi:i<a.fin.length)(hj:j<b.fin.length):Yf a b ((i:Int),(j:Int))=(a.fin[i] != b.fin[j]):=by unfold Yf;simp[List.getD,hi,hj]
theorem Dy{a b:Aut}(ha:OkA a)(hb:OkA b){s:Int×Int}{e:Sy×(Int×Int)}(he:e∈Wh a b s):inS a e.2.1∧inS b e.2.2:=by obtain⟨m,hm,n,hn,_,rfl⟩:=Uo.1 he;have h1:=(ha.mv m (Wu.1 hm).1).dst;have h2:=(hb.mv n (Wu.1 hn).1).dst;exact⟨⟨h1.1,h1.2⟩,⟨h2.1,h2.2⟩⟩
theorem S1{a b:Aut}(ha:OkA a)(hb:OkA b){s:Int×Int}(h:inS a s.1∧inS b s.2):okK s:=by have h1:=ha.fin;have h2:=hb.fin;obtain⟨⟨_,_⟩,⟨_,_⟩⟩:=h;unfold okK;omega
attribute [local irreducible] Q8 En Rz Wh Yf lkN
theorem y1n(a:Aut)(ha:OkA a)(H:List AObj)(A:Nat)(hA:H[A]? =some (.vars (Q0 a)))(p q:Int)(hp:inS a p)(hq:inS a q):
  FC Tryz.prog 146 [.i p,.i q,.vptr A 0] H (fun r H'=>r= .bool (Yf a a (p,q))∧H'=H):=by
 refine W5 tOk Tryz.func146 rfl Tryz.results146 rfl (by simp[Tryz.ntmps146]) ?_;rw[Tryz.ntmps146];simp only[Qf];obtain⟨i,rfl⟩:∃i:Nat,p=i:=⟨p.toNat,(Fk hp).2.symm⟩
 obtain⟨j,rfl⟩:∃j:Nat,q=j:=⟨q.toNat,(Fk hq).2.symm⟩
 have hi:i<a.fin.length:=by have:=hp.2;omega
 have hj:j<a.fin.length:=by have:=hq.2;omega
 rw[v01 hi hj];simp only[Q0]at hA;repeat first|(refine r_ ?_;simp)|refine q_ ?_
 refine Qk tOk mixed [] (.val 0 (.val 1 (.val 2 (.val 3 (.val 4 (.val 5 (.val 6 (.val 7 (.val 8 (.val 9 (.val 10 (.val 11 (.val 12 (.val 13 (.done))))))))))))))) rfl (by kernel_rfl) ?_;simp[hA,hi,hj];repeat first|(refine r_ ?_;simp)|refine q_ ?_
 generalize a.fin[i]=x;generalize a.fin[j]=y;cases x<;>cases y<;>rfl
def Zu(near:Ir)(d:Int)(es:List (Sy×(Int×Int))):Bool:=es.any fun e=>(lkN near e.2).isSome && decide (((lkN near e.2).getD 0:Nat)=d)
theorem j08(near:Ir)(d:Int)(pre:List (Sy×(Int×Int)))(e:Sy×(Int×Int)):Zu near d (pre++[e])=(Zu near d pre || ((lkN near e.2).isSome && decide (((lkN near e.2).getD 0:Nat)=d))):=by simp[Zu]
theorem g0x{near:Ir}{d:Int}{pre post:List (Sy×(Int×Int))}{e:Sy×(Int×Int)}(h:((lkN near e.2).isSome && decide (((lkN near e.2).getD 0:Nat)=d))=true):Zu near d (pre++e::post)=true:=by unfold Zu;rw[List.any_append,List.any_cons,h];simp
theorem w12(near:Ir)(d:Int):Zu near d []=false:=rfl
attribute [local irreducible] Zu
theorem c0l(a:Aut)(ha:OkA a)(H:List AObj)(A N M D:Nat)(near:Ir)(d:Nat)(hA:H[A]? =some (.vars (Q0 a)))(hN:H[N]? =some (.vars [.mref M]))(hM:H[M]? =some (mpN near))(hD:H[D]? =some (.vars [.i d]))(hd:1≤d∧d≤1000000)(zd:NK near)(p q:Int)(hp:inS a p)(hq:inS a q):
  FC Tryz.prog 147 [.i p,.i q,.vptr A 0,.vptr N 0,.vptr D 0] H (fun r H'=>r= .bool (Zu near ((d:Int) - 1) (Wh a a (p,q)))∧∀i,i<H.length→H'[i]? =H[i]?):=by
 refine W5 tOk Tryz.func147 rfl Tryz.results147 rfl (by simp[Tryz.ntmps147]) ?_;rw[Tryz.ntmps147];simp only[Qf];have zb:=hA;simp only[Q0]at zb;have zn:=Qi hA;have ze:=Qi hN;have zf:=Qi hM;have zg:=Qi hD;have zh:∀L,(H++L)[A]? =some (.vars [.i a.types,.list (a.fin.map .bool),.list (a.mv.map encMv),.list (Rz a)]):=fun L=>Qb zb L;repeat first|(refine r_ ?_;simp[zh])|refine q_ ?_
 refine Qe rfl rfl (by simp) (Kz a a p q) rfl ?_;rintro _ rfl;simp;repeat first|(refine r_ ?_;simp)|refine q_ ?_
 refine E6 rfl (Rf:=fun _ H'=>(Zu near ((d:Int) - 1) (Wh a a (p,q))=false∧(∃sl' z1 a' b',H'[H.length+1]? =some (.lp true none 34 sl' z1 a' b'))∧H'[H.length]? =some (.vars [.bool false])∧∀i,i<H.length→H'[i]? =H[i]?)∨
  (Zu near ((d:Int) - 1) (Wh a a (p,q))=true∧(∃sl' z1 a' b',H'[H.length+1]? =some (.lp false (some .ret) 34 sl' z1 a' b'))∧H'[H.length]? =some (.vars [.bool true])∧∀i,i<H.length→H'[i]? =H[i]?)) ?_ ?_
 ·simp;refine Jy fun H1 z6=> ?_;have f0:H1[H.length]? =some (.vars [.bool false]):=by rw[z6,zO (by omega)];simp
  have fk:∀i,i<H.length→H1[i]? =H[i]? :=fun i hi=>by rw[z6,zI hi]
  have fl:=congrArg (fun h:List AObj=>h[H.length+1]?) z6;have zo:H1.length=H.length+2:=by rw[z6];simp
  simp at fl;clear z6;refine FC.mono (G4 a a ha ha rfl p q hp hq (H.length+1) (by rfl) (by rfl)
   (fun pre H'=>Zu near ((d:Int) - 1) pre=false∧H'[H.length+1]? =H1[H.length+1]? ∧H'[H.length]? =some (.vars [.bool false])∧∀i,i<H.length→H'[i]? =H[i]?)
   (fun c H'=>c= .ret∧Zu near ((d:Int) - 1) (Wh a a (p,q))=true∧(∃sl' z1 a' b',H'[H.length+1]? =some (.lp false (some .ret) 34 sl' z1 a' b'))∧H'[H.length]? =some (.vars [.bool true])∧∀i,i<H.length→H'[i]? =H[i]?) H1
   (fun k H' ⟨_,h2,_,_⟩=>h2.trans fl) ?_ ?_ ⟨w12 _ _,rfl,f0,fk⟩) ?_
  ·rintro k H' L ⟨h1,h2,h3,h4⟩;exact⟨h1,by rw[←h2,zI (by rw[fl]at h2;exact Qi h2)],Qb h3 _,fun i hi=>by rw[zI (by have:=Qi h3;omega)];exact h4 i hi⟩
  ·rintro pre e post H' zc ⟨h1,h2,h3,h4⟩ hlen;simp[Ty];have zi:=Dy ha ha (show e∈Wh a a (p,q) by rw[zc];simp);have zj:=S1 ha ha zi;have zp:=Qi (h2.trans fl);have z7:=j08 near ((d:Int) - 1) pre e;have z8:=fun h=>g0x (near:=near) (d:=(d:Int) - 1) (pre:=pre) (post:=post) (e:=e) h;rw[←zc]at z8;rw[h1,Bool.false_or]at z7;have zz:=Qg (h2.trans fl) .dead;have z0:(H'.set (H.length+1) .dead)[H.length]? =some (.vars [.bool false]):=Qc (by omega) h3 _;have zk:∀i,i<H.length→(H'.set (H.length+1) .dead)[i]? =H[i]? :=fun i hi=>by rw[zH (by omega)];exact h4 i hi
   have zv:∀i cs,H1.length≤i→H'[i]? =some (.vars cs)→(H'.set (H.length+1) .dead)[i]? =some (.vars cs):=fun i cs hi hc=>by rw[zH (by omega)];exact hc
   have zl:(H'.set (H.length+1) .dead).length=H'.length:=by simp
   rw[←zl];generalize H'.set (H.length+1) .dead=Z at *
   have zN:=(zk N ze).trans hN;have zM:=(zk M zf).trans hM;have zD:=(zk D zg).trans hD;have zNA:∀L,(Z++L)[N]? =some (.vars [.mref M]):=fun L=>Qb zN L;have zMA:∀L,(Z++L)[M]? =some (mpN near):=fun L=>Qb zM L;have zDA:∀L,(Z++L)[D]? =some (.vars [.i d]):=fun L=>Qb zD L;have z0A:∀L,(Z++L)[H.length]? =some (.vars [.bool false]):=fun L=>Qb z0 L;have z0H:∀L hh,(Z++L)[H.length]'hh= .vars [.bool false]:=fun L hh=>(yJ hh).2 (z0A L);have zm:IntKind.i64.wrap ((d:Int) - 1)=d - 1:=wrap_i64 _ (by omega) (by omega);simp only[y1o];repeat first|(refine r_ ?_;simp[zNA,zDA])|refine q_ ?_
   refine Yv rfl rfl rfl rfl (s:=e.2) rfl (near:=near) (zMA _) zd zj ?_;simp;generalize lkN near e.2=lk at *
   cases lk with
   |none=>
    simp at z7;repeat first|(refine r_ ?_;simp[zDA])|refine q_ ?_
    refine Qa rfl (fun h=>by simp at h) (fun _=> ?_);repeat first|(refine r_ ?_;simp)|refine q_ ?_
    refine⟨Qb zz _,.inl ⟨rfl,⟨z7,?_,?_,fun i hi=> ?_⟩,fun i cs hi hc=> ?_⟩⟩
    ·rw[fl];exact Qg (Qb zz _) _
    ·exact z0A _
    ·rw[zH (by omega),zI (by omega)];exact zk i hi
    ·exact Qc (j:=H.length+1) (by omega) (Qb (zv i cs hi hc) _) _
   |some kd=>
    simp at z7 z8;repeat first|(refine r_ ?_;simp[zDA,zm])|refine q_ ?_
    refine Qa rfl (fun h=> ?_) (fun h=> ?_)
    ·have za:(kd:Int)=d - 1:=by simpa using h
     repeat first|(refine r_ ?_;simp[z0A,z0H])|refine q_ ?_
     refine⟨Qc (j:=H.length) (by omega) (Qb zz _) _,.inr ⟨.ret,rfl,rfl,z8 za,?_,?_,fun i hi=> ?_⟩⟩
     ·exact⟨_,_,_,_,Qg (Qc (j:=H.length) (by omega) (Qb zz _) _) _⟩
     ·exact Qg (z0A _) _
     ·rw[zH (by omega),zH (by omega),zI (by omega)];exact zk i hi
    ·have za:¬(kd:Int)=d - 1:=by simpa using h
     repeat first|(refine r_ ?_;simp)|refine q_ ?_
     refine⟨Qb zz _,.inl ⟨rfl,⟨by rw[z7,decide_eq_false za],?_,?_,fun i hi=> ?_⟩,fun i cs hi hc=> ?_⟩⟩
     ·rw[fl];exact Qg (Qb zz _) _
     ·exact z0A _
     ·rw[zH (by omega),zI (by omega)];exact zk i hi
     ·exact Qc (j:=H.length+1) (by omega) (Qb (zv i cs hi hc) _) _
  ·rintro _ H' (⟨h1,h2,h3,h4⟩|⟨c,rfl,h1,h2,h3,h4⟩)
   ·exact .inl ⟨h1,⟨_,_,_,_,h2.trans fl⟩,h3,h4⟩
   ·exact .inr ⟨h1,h2,h3,h4⟩
 ·rintro _ H' (⟨h1,⟨sl',z1,a',b',h2⟩,h3,h4⟩|⟨h1,⟨sl',z1,a',b',h2⟩,h3,h4⟩)
  ·refine⟨true,none,34,sl',z1,a',b',by simpa using h2,?_⟩;simp;have z0:=Qc (j:=H.length+1) (by omega) h3 .dead;have z0H:∀hh,(H'.set (H.length+1) .dead)[H.length]'hh= .vars [.bool false]:=fun hh=>(yJ hh).2 z0;rw[h1];have zk:∀i,i<H.length→(H'.set (H.length+1) .dead)[i]? =H[i]? :=fun i hi=>by rw[zH (by omega)];exact h4 i hi
   generalize H'.set (H.length+1) .dead=Z at *
   repeat first|(refine r_ ?_;simp[z0,z0H,Qg z0])|refine q_ ?_
   exact fun i hi=>by rw[zH (by omega)];exact zk i hi
  ·refine⟨false,some .ret,34,sl',z1,a',b',by simpa using h2,?_⟩;simp;have z0:=Qc (j:=H.length+1) (by omega) h3 .dead;rw[h1];have zk:∀i,i<H.length→(H'.set (H.length+1) .dead)[i]? =H[i]? :=fun i hi=>by rw[zH (by omega)];exact h4 i hi
   generalize H'.set (H.length+1) .dead=Z at *
   repeat first|(refine r_ ?_;simp[z0])|refine q_ ?_
   exact zk
end Go.Abs
namespace Go.Abs
open Go Go.Proofs Go.Maps Go.RowKit
theorem v1m{G K:List AObj}(h:∀i,i<G.length→K[i]? =G[i]?):∃E,K=G++E:=by
 refine⟨K.drop G.length,?_⟩;have hl:G.length≤K.length:=by
  by_cases h0:G.length=0
  ·omega
  ·have:=h (G.length - 1) (by omega);have h2:G[G.length - 1]? =some (G[G.length - 1]'(by omega)):=zP (by omega);rw[h2]at this;have:=Qi this;omega
 refine xX fun i=> ?_;by_cases hi:i<G.length
 ·rw[zI hi];exact h i hi
 ·rw[zO (by omega),List.getElem?_drop]
  congr 1;omega
def fdR(n:Nat)(g:Int×Int→Bool)(i:Nat):List (Int×Int):=((yW i).flatMap fun x:Nat=>(yW n).map fun y:Nat=>((x:Int),(y:Int))).filter g
def fdC(g:Int×Int→Bool)(i j:Nat):List (Int×Int):=((yW j).map fun y:Nat=>((i:Int),(y:Int))).filter g
theorem q04(n:Nat)(g:Int×Int→Bool):fdR n g 0=[]:=by simp[fdR]
theorem q01(g:Int×Int→Bool)(i:Nat):fdC g i 0=[]:=by simp[fdC]
theorem w1f(n:Nat)(g:Int×Int→Bool)(i:Nat):fdR n g (i+1)=fdR n g i++fdC g i n:=by unfold fdR fdC;rw[wT,wP,uf];simp
theorem z1a(g:Int×Int→Bool)(i j:Nat):fdC g i (j+1)=fdC g i j++(if g ((i:Int),(j:Int))=true then [((i:Int),(j:Int))]else []):=by
 unfold fdC;rw[wT,xF,uf]
 congr 1
 rw[List.map_cons,List.map_nil,uP,tV]
theorem f1w(a:Aut)(g:Int×Int→Bool):fdR a.fin.length g a.fin.length=(Pq a a).filter g:=by
 unfold fdR Pq E3
 congr 1
 rw[List.flatMap_map];simp[vC,Function.comp_def]
theorem Cr(n:Nat):∀i:Nat,((yW i).map fun _:Nat=>n).sum=i * n
 |0=>by simp
 |i+1=>by rw[wT,xF,List.sum_append,Cr n i];simp[Nat.succ_mul]
theorem c1k(n:Nat)(g:Int×Int→Bool)(i j:Nat)(hi:i≤n)(hj:j≤n):(fdR n g i++fdC g i j).length≤n * n+n:=by
 rw[yS];have h1:(fdR n g i).length≤i * n:=by
  unfold fdR;refine yY (xW _ _) ?_;rw[List.length_flatMap];have:((yW i).map fun x:Nat=>((yW n).map fun y:Nat=>((x:Int),(y:Int))).length).sum=i * n:=by simpa using Cr n i
  omega
 have h2:(fdC g i j).length≤j:=by unfold fdC;refine yY (xW _ _) ?_;simp
 have:=Nat.mul_le_mul_right n hi;omega
def Dj(a:Aut)(near:Ir)(pf:Int×Int→Bool)(s:Int×Int):Bool:=(lkN near s).isNone && pf s
def Zs(a:Aut)(near:Ir)(pf:Int×Int→Bool):List (Int×Int):=(Pq a a).filter (Dj a near pf)
theorem L8{a:Aut}{near:Ir}{pf:Int×Int→Bool}{s:Int×Int}(h:s∈Zs a near pf):inP a s∧s∉near.map (·.1):=by obtain⟨h1,h2⟩:=List.mem_filter.1 h;refine⟨g0i h1,Dr.1 ?_⟩;unfold Dj at h2;simp only[Bool.and_eq_true,Option.isNone_iff_eq_none]at h2;exact h2.1
theorem j0a(a:Aut)(near:Ir)(pf:Int×Int→Bool):(Zs a near pf).Nodup:=(J6 a).filter _
theorem NK.round{a:Aut}(ha:OkA a){near:Ir}(h:NK near)(pf:Int×Int→Bool)(d:Nat){l r:List (Int×Int)}(he:Zs a near pf=l++r):NK (near++l.map fun s=>(s,d)):=by
 have hl:∀s∈l,s∈Zs a near pf:=fun s hs=>by rw[he];simp[hs]
 refine⟨?_,fun e hm=> ?_⟩
 ·rw[xF,vT];refine⟨h.nd,?_,fun x hx y hy e=> ?_⟩
  ·have:=j0a a near pf;rw[he,vT]at this;simpa[Function.comp_def]using this.1
  ·simp only[vC,Function.comp_def,sf]at hy;subst e;exact(L8 (hl _ hy)).2 hx
 ·rcases yE.1 hm with hm|hm
  ·exact h.ok e hm
  ·obtain⟨s,hs,rfl⟩:=zX.1 hm;exact S1 ha ha (L8 (hl s hs)).1
attribute [local irreducible] lkN Dj fdR fdC
theorem M7 (a:Aut) (ha:OkA a) (H:List AObj) (nC N M:Nat) (near:Ir) (d:Nat) (pf:Int×Int→Bool) (f:FuncId) (cs:List AV) (hn:H[nC]? =some (.vars [.i a.fin.length])) (hN:H[N]? =some (.vars [.mref M])) (hM:H[M]? =some (mpN near)) (zv:NK near)
  (zf:∀(p q:Int) (H':List AObj),inS a p→inS a q→(∀i,i<H.length→H'[i]? =H[i]?)→FC Tryz.prog f ([]++[.i p,.i q]++cs) H' (fun r K=>r= .bool (pf (p,q))∧∀i,i<H'.length→K[i]? =H'[i]?)):
  FC Tryz.prog 145 [.i d,.fn (.func f) [] cs,.vptr nC 0,.vptr N 0] H (fun r H'=>r= .bool (decide (0<(Zs a near pf).length))∧H'[M]? =some (mpN (near++(Zs a near pf).map fun s=>(s,d)))∧∀i,i<H.length→i≠M→H'[i]? =H[i]?):=by
 refine W5 tOk Tryz.func145 rfl Tryz.results145 rfl (by simp[Tryz.ntmps145]) ?_;rw[Tryz.ntmps145];simp only[Qf];have za:=ha.fin;have ym:=Qi hn;have y7:=Qi hN;have y8:=Qi hM;have y9:=f1w a (Dj a near pf);have ya:=c1k a.fin.length (Dj a near pf);have yb:a.fin.length * a.fin.length≤65536:=yY (sd za.2 za.2) (by decide);repeat first|(refine r_ ?_;simp[hn])|refine q_ ?_
 refine Wg 7 135 2 rfl ?_;simp;have yc:=SL.start H 135 2;refine Qr (Qd (sl':=[(0,.i d),(1,.fn (.func f) [] cs),(2,.vptr nC 0),(3,.vptr N 0),(6,.bool false),(7,.sl H.length 2 0 (fdR a.fin.length (Dj a near pf) 0).length),(14,.i a.fin.length),(15,.i (0:Nat))]) ?_ (by simp[q04]));refine Qq (F:=fun(u:Nat×Nat×List AObj)=>⟨[(0,.i d),(1,.fn (.func f) [] cs),(2,.vptr nC 0),(3,.vptr N 0),(6,.bool false),(7,.sl u.2.1 2 0 (fdR a.fin.length (Dj a near pf) u.1).length),(14,.i a.fin.length),(15,.i u.1)],u.2.2⟩)
  (fun u=>u.1≤a.fin.length∧SL H u.2.2 u.2.1 135 2 ((fdR a.fin.length (Dj a near pf) u.1).map kyP)) (fun u=>a.fin.length - u.1) ?_ (0,H.length,_) ⟨wK _,by rw[q04];exact yc⟩
 rintro⟨i,q,G⟩ ⟨hi,hs⟩ ih;simp only at hi hs ih ⊢;repeat first|(refine r_ ?_;simp)|refine q_ ?_
 refine Qa rfl (fun yd=> ?_) (fun ye=> ?_)
 ·have yf:i<a.fin.length:=by simpa using yd
  have hw:IntKind.i64.wrap ((i:Int)+1)=i+1:=wrap_i64 _ (by omega) (by omega);have zw:=fun q' G'=>ih (i+1,q',G');simp only[w1f]at zw;have gn:=hs.kp hn;repeat first|(refine r_ ?_;simp[gn])|refine q_ ?_
  refine Qr (Qd (sl':=[(0,.i d),(1,.fn (.func f) [] cs),(2,.vptr nC 0),(3,.vptr N 0),(6,.bool false),(7,.sl q 2 0 (fdR a.fin.length (Dj a near pf) i++fdC (Dj a near pf) i 0).length),(8,.i i),(14,.i a.fin.length),(15,.i i),(18,.i a.fin.length),(19,.i (0:Nat))]) ?_ (by simp[q01]));refine Qq (F:=fun(u:Nat×Nat×List AObj)=>⟨[(0,.i d),(1,.fn (.func f) [] cs),(2,.vptr nC 0),(3,.vptr N 0),(6,.bool false),(7,.sl u.2.1 2 0 (fdR a.fin.length (Dj a near pf) i++fdC (Dj a near pf) i u.1).length),(8,.i i),(14,.i a.fin.length),(15,.i i),(18,.i a.fin.length),(19,.i u.1)],u.2.2⟩)
   (fun u=>u.1≤a.fin.length∧SL H u.2.2 u.2.1 135 2 ((fdR a.fin.length (Dj a near pf) i++fdC (Dj a near pf) i u.1).map kyP)) (fun u=>a.fin.length - u.1) ?_ (0,q,G) ⟨wK _,by rw[q01,xS];exact hs⟩
  clear hs gn;clear G q;rintro⟨j,q,G⟩ ⟨hj,hs⟩ ih2;simp only at hj hs ih2 ⊢;repeat first|(refine r_ ?_;simp)|refine q_ ?_
  refine Qa rfl (fun zg=> ?_) (fun zh=> ?_)
  ·have zx:j<a.fin.length:=by simpa using zg
   have zi:IntKind.i64.wrap ((j:Int)+1)=j+1:=wrap_i64 _ (by omega) (by omega);have z1:=fun q' G'=>ih2 (j+1,q',G');simp only[z1a]at z1;have gN:=hs.kp hN;have gM:=hs.kp hM;have zy:inS a (i:Int):=⟨by omega,by omega⟩
   have zz:inS a (j:Int):=⟨by omega,by omega⟩
   have zj:okK ((i:Int),(j:Int)):=S1 ha ha ⟨zy,zz⟩;have yn:=ya i j hi hj;have yg:=hs.le;have zk:∀x,x<H.length→G[x]? =H[x]? :=fun x hx=>by have h1:H[x]? =some H[x]:=zP hx;rw[h1];exact hs.kp h1
   have z7:Dj a near pf ((i:Int),(j:Int))=((lkN near ((i:Int),(j:Int))).isNone && pf ((i:Int),(j:Int))):=by unfold Dj;rfl
   repeat first|(refine r_ ?_;simp[gN])|refine q_ ?_
   refine Yv rfl rfl rfl rfl (s:=((i:Int),(j:Int))) rfl (near:=near) gM zv zj ?_;simp;generalize hL:fdR a.fin.length (Dj a near pf) i++fdC (Dj a near pf) i j=L at *;simp only[←xZ,hL]at z1
   have zb:(fdR a.fin.length (Dj a near pf) i).length+(fdC (Dj a near pf) i j).length=L.length:=by rw[←hL,yS]
   cases hlk:lkN near ((i:Int),(j:Int))with
   |some kd=>
    rw[hlk]at z7;simp at z7;simp only[z7,uF,if_false,xS]at z1;repeat first|(refine r_ ?_;simp)|refine q_ ?_
    refine Q6 rfl rfl ?_;simp;refine Qm rfl ?_;repeat first|(refine r_ ?_;simp[zi])|refine q_ ?_
    refine Qd (sl':=[(0,.i d),(1,.fn (.func f) [] cs),(2,.vptr nC 0),(3,.vptr N 0),(6,.bool false),(7,.sl q 2 0 L.length),(8,.i i),(14,.i a.fin.length),(15,.i i),(18,.i a.fin.length),(19,.i (j+1:Nat))]) ?_ (by simp[zb]);exact z1 q G ⟨by omega,hs⟩ (by omega)
   |none=>
    rw[hlk]at z7;simp at z7;repeat first|(refine r_ ?_;simp)|refine q_ ?_
    refine Q4 rfl rfl (zf i j G zy zz zk) rfl ?_;rintro _ K ⟨rfl,hK⟩;obtain⟨E,rfl⟩:=v1m hK;have z8:=hs.add E;generalize G++E=G2 at *
    simp;cases hpf:pf ((i:Int),(j:Int))with
    |true=>
     rw[hpf]at z7;simp only[z7,if_true]at z1;have y0:(L.map kyP).length=L.length:=by simp
     generalize zl:L.map kyP=acc at *;refine Qm rfl ?_
     repeat first|(refine r_ ?_;simp)|refine q_ ?_
     refine Qh tOk rfl rfl z2i rfl z2q rfl (by decide) (by decide) rfl rfl rfl ?_;simp[Qb z8.arr,Qj z8.arr,y0,zb];refine⟨by simp[Wp,Qb z8.arr,Qj z8.arr,y0,zb]<;>omega,?_⟩;repeat first|(refine r_ ?_;simp[zi])|refine q_ ?_
     refine Qd (sl':=[(0,.i d),(1,.fn (.func f) [] cs),(2,.vptr nC 0),(3,.vptr N 0),(6,.bool false),(7,.sl (G2.length+1) 2 0 (L++[((i:Int),(j:Int))]).length),(8,.i i),(14,.i a.fin.length),(15,.i i),(18,.i a.fin.length),(19,.i (j+1:Nat))]) ?_ (by simp[zb]);refine z1 (G2.length+1) _ ⟨by omega,?_⟩ (by omega);have:=z8.put [AObj.arr 135 2 [kyP ((i:Int),(j:Int))]] (acc++[kyP ((i:Int),(j:Int))]) rfl;rw[show(L++[((i:Int),(j:Int))]).map kyP=acc++[kyP ((i:Int),(j:Int))] by rw[←zl];simp];exact this
    |false=>
     rw[hpf]at z7;simp only[z7,uF,if_false,xS]at z1;refine Qm rfl ?_;repeat first|(refine r_ ?_;simp[zi])|refine q_ ?_
     refine Qd (sl':=[(0,.i d),(1,.fn (.func f) [] cs),(2,.vptr nC 0),(3,.vptr N 0),(6,.bool false),(7,.sl q 2 0 L.length),(8,.i i),(14,.i a.fin.length),(15,.i i),(18,.i a.fin.length),(19,.i (j+1:Nat))]) ?_ (by simp[zb]);exact z1 q G2 ⟨by omega,z8⟩ (by omega)
  ·have zc:j=a.fin.length:=by simp at zh;omega
   subst zc;repeat first|(refine r_ ?_;simp[hw])|refine q_ ?_
   refine Qd (sl':=[(0,.i d),(1,.fn (.func f) [] cs),(2,.vptr nC 0),(3,.vptr N 0),(6,.bool false),(7,.sl q 2 0 (fdR a.fin.length (Dj a near pf) i++fdC (Dj a near pf) i a.fin.length).length),(14,.i a.fin.length),(15,.i (i+1:Nat))]) ?_ (by simp);exact zw q G ⟨by omega,hs⟩ (by omega)
 ·have zm:i=a.fin.length:=by simp at ye;omega
  subst zm;rw[y9]at hs ⊢;have yh:(Pq a a).filter (Dj a near pf)=Zs a near pf:=rfl;rw[yh]at hs ⊢;have yo:(Zs a near pf).length≤65536:=by refine yY (xW _ _) ?_;rw[Am];exact yb
  have y1:=fun l r h=>zv.round ha pf d (l:=l) (r:=r) h;have y2:=fun s h=>L8 (a:=a) (near:=near) (pf:=pf) (s:=s) h;have zn:=j0a a near pf;generalize Zs a near pf=L at *
  have zk:∀x,x<H.length→G[x]? =H[x]? :=fun x hx=>by have h1:H[x]? =some H[x]:=zP hx;rw[h1];exact hs.kp h1
  have yg:=hs.le;have yp:H.length≤q:=hs.ge;refine Qx (sl':=[(0,.i d),(3,.vptr N 0),(6,.bool false),(7,.sl q 2 0 L.length)]) ?_ (by simp);refine Wl q hs.arr ?_;simp[AV.fz];rw[zZ (by simp)];have yk:∀x,x<H.length→(G.set q .dead)[x]? =H[x]? :=fun x hx=>by rw[zH (by omega)];exact zk x hx
  generalize G.set q .dead=Y at *
  repeat first|(refine r_ ?_;simp)|refine q_ ?_
  refine Qr (Qd (sl':=[(0,.i d),(3,.vptr N 0),(6,.bool false),(7,.list (L.map kyP)),(46,.list (L.map kyP)),(47,.i L.length),(48,.i (0:Nat))]) ?_ (by simp));refine Qq (F:=fun(u:Nat×List AObj)=>⟨[(0,.i d),(3,.vptr N 0),(6,.bool false),(7,.list (L.map kyP)),(46,.list (L.map kyP)),(47,.i L.length),(48,.i u.1)],u.2⟩)
   (fun u=>u.1≤L.length∧u.2[M]? =some (mpN (near++(L.take u.1).map fun s=>(s,d)))∧∀i,i<H.length→i≠M→u.2[i]? =H[i]?) (fun u=>L.length - u.1) ?_ (0,Y) ⟨wK _,by simpa using(yk M y8).trans hM,fun i hi _=>yk i hi⟩
  clear yk;clear Y;rintro⟨k,Y⟩ ⟨hk,yM,yk⟩ ih3;simp only at hk yM yk ih3 ⊢;repeat first|(refine r_ ?_;simp)|refine q_ ?_
  refine Qa rfl (fun zo=> ?_) (fun zp=> ?_)
  ·have z6:k<L.length:=by simpa using zo
   have yi:IntKind.i64.wrap ((k:Int)+1)=k+1:=wrap_i64 _ (by omega) (by omega);have yj:N≠M:=fun e=>by rw[e,hM]at hN;simp[mpN]at hN
   have y3:(L.map kyP)[k]? =some (kyP L[k]):=by simp[z6]
   have y4:∀hh,(L.map kyP)[k]'hh=kyP L[k]:=fun hh=>by simp
   have zq:L.take k++L[k]::L.drop (k+1)=L:=by rw[←List.drop_eq_getElem_cons z6,wd]
   have zr:=y1 (L.take k) (L[k]::L.drop (k+1)) zq.symm;have y5:=y2 L[k] (zT z6);have zj:=S1 ha ha y5.1;have zt:L[k]∉(near++(L.take k).map fun s=>(s,d)).map (·.1):=by rw[xF,yE,not_or];refine⟨y5.2,fun h=> ?_⟩;simp only[vC,Function.comp_def,sf]at h;rw[←zq,vT]at zn;exact zn.2.2 _ h _ List.mem_cons_self rfl
   have y6:(L.take (k+1)).map (fun s=>(s,d))=(L.take k).map (fun s=>(s,d))++[(L[k],d)]:=by rw[z_ z6,xF];rfl
   have zd:=fun G'=>ih3 (k+1,G');simp only[y6,←xZ]at zd;generalize L[k]=s at *;clear zq y6 zn y2 y1;generalize near++(L.take k).map (fun s=>(s,d))=nr at *
   have yN:=(yk N y7 yj).trans hN;have yNA:∀E,(Y++E)[N]? =some (.vars [.mref M]):=fun E=>Qb yN E;simp only[kyP]at y3 y4;repeat first|(refine r_ ?_;simp[y3,y4,z6,yNA])|refine q_ ?_
   refine y0z rfl rfl rfl rfl (s:=s) rfl (d:=d) rfl (near:=nr) (Qb yM _) zr zj zt ?_;simp;repeat first|(refine r_ ?_;simp[yi])|refine q_ ?_
   refine Qd (sl':=[(0,.i d),(3,.vptr N 0),(6,.bool false),(7,.list (L.map kyP)),(46,.list (L.map kyP)),(47,.i L.length),(48,.i (k+1:Nat))]) ?_ (by simp);refine zd _ ⟨by omega,Qg (Qb yM _) _,fun i hi zu=> ?_⟩ (by omega);have yl:i<Y.length:=Qi ((yk i hi zu).trans (zP hi));rw[zH (Ne.symm zu),zI yl];exact yk i hi zu
  ·have ze:k=L.length:=by simp at zp;omega
   subst ze;rw[xD]at yM;repeat first|(refine r_ ?_;simp)|refine q_ ?_
   exact⟨yM,yk⟩
end Go.Abs
namespace Go.Abs
open Go Go.Proofs Go.Maps Go.RowKit
section
variable {P:Program} [Env P] {nt k:Nat} {S:AS} {ops:Array Oper} {o:Oper} {R:AS→Prop}
theorem Cb{wr:Bool}(hw:Q3 ops S o=some true)(hd:Wy nt o=true)(ho:o.op= .assign (.const (.map none)))(hR:R (S.putD o.dst .top)):Wq P nt k wr ops o S R:=
 f09 hw hd (fun W0 I0 w I m a z1 z6=>⟨.map none,by simp[execOp,ho,Act.eval],.pure (.top _)⟩) hR
end
theorem z0b(a:Aut)(near:Ir):Ts a near 0=Zs a near (Yf a a):=by unfold Ts Zs;refine tE fun s _=> ?_;unfold Dj F3;cases lkN near s<;>simp
theorem z0u(a:Aut)(near:Ir)(d:Nat):Ts a near (d+1)=Zs a near (fun s=>Zu near (d:Int) (Wh a a s)):=by
 unfold Ts Zs;refine tE fun s _=> ?_;unfold Dj F3 Zu
 congr 1
 ·cases lkN near s<;>simp
 ·show(Wh a a s).any _=(Wh a a s).any _
  congr 1
  funext e;cases lkN near e.2 with
  |none=>simp
  |some k=>simp;omega
structure NB (a:Aut) (near:Ir):Prop where
 nk:NK near
 inn:∀e∈near,inP a e.1
 bd:∀e∈near,e.2≤1000000
theorem NB.len{a:Aut}{near:Ir}(h:NB a near):near.length≤a.fin.length * a.fin.length:=by
 have e:near.length=(near.map (·.1)).length:=by rw[List.length_map]
 rw[←Am,e];refine Iy _ _ h.nk.nd fun x hx=> ?_;obtain⟨e,he,rfl⟩:=zX.1 hx;exact Gy (h.inn e he).1 (h.inn e he).2
theorem NB.add{a:Aut}(ha:OkA a){near:Ir}(h:NB a near)(pf:Int×Int→Bool)(d:Nat)(hd:d≤1000000):NB a (near++(Zs a near pf).map fun s=>(s,d)):=by
 refine⟨h.nk.round ha pf d (l:=Zs a near pf) (r:=[]) (by simp),fun e he=> ?_,fun e he=> ?_⟩;rcases yE.1 he with he|he
 ·exact h.inn e he
 ·obtain⟨s,hs,rfl⟩:=zX.1 he;exact(L8 hs).1
 ·rcases yE.1 he with he|he
  ·exact h.bd e he
  ·obtain⟨s,hs,rfl⟩:=zX.1 he;exact hd
theorem x1u(a:Aut):NB a []:=⟨⟨by simp,by simp⟩,by simp,by simp⟩
theorem x0t(a:Aut)(f d:Nat)(near:Ir):Hz a (f+1) d near=if Ts a near d=[]then near else Hz a f (d+1) (near++(Ts a near d).map fun s=>(s,d)):=by rw[Hz]
theorem j0b(a:Aut):Yd a=Hz a (a.fin.length * a.fin.length+1) 1 ((Ts a [] 0).map fun s=>(s,0)):=rfl
attribute [local irreducible] Q8 En Rz Wh Yf lkN Zu Zs Hz Yd
theorem Dc(a:Aut)(ha:OkA a)(H:List AObj):FC Tryz.prog 89 [Eh a] H (fun r H'=>∃M,r= .mref M∧H.length≤M∧H'[M]? =some (mpN (Yd a))∧NB a (Yd a)∧∀i,i<H.length→H'[i]? =H[i]?):=by
 refine W5 tOk Tryz.func89 rfl Tryz.results89 rfl (by simp[Tryz.ntmps89]) ?_;rw[Tryz.ntmps89];simp only[Qf];simp only[Eh,Q0];have z6:=ha.fin;repeat first|(refine r_ ?_;simp)|refine q_ ?_
 refine Cb rfl rfl rfl ?_;simp;repeat first|(refine r_ ?_;simp)|refine q_ ?_
 refine Rv rfl rfl rfl ?_;simp;repeat first|(refine r_ ?_;simp)|refine q_ ?_
 refine Hc fun Z hZ=> ?_;have zA:Z[H.length]? =some (.vars (Q0 a)):=by rw[hZ,zO (by omega)];simp[Q0]
 have zM:Z[H.length+1]? =some (mpN []):=by rw[hZ,zO (by omega)];simp[mpN,kvN]
 have zN:Z[H.length+2]? =some (.vars [.mref (H.length+1)]):=by rw[hZ,zO (by omega)];simp
 have zC:Z[H.length+3]? =some (.vars [.i a.fin.length]):=by rw[hZ,zO (by omega)];simp
 have zk:∀i,i<H.length→Z[i]? =H[i]? :=fun i hi=>by rw[hZ,zI hi]
 clear hZ;refine Q4 rfl rfl (M7 a ha Z (H.length+3) (H.length+2) (H.length+1) [] 0 (Yf a a) 146 [.vptr H.length 0] zC zN zM (x1u a).nk (fun p q H' hp hq hk=>FC.mono (y1n a ha H' H.length ((hk _ (Qi zA)).trans zA) p q hp hq) (fun r K ⟨h1,h2⟩=>⟨h1,fun i _=>by rw[h2]⟩))) rfl ?_;rintro _ Y ⟨rfl,yM,yk⟩;simp;have yA:=(yk _ (Qi zA) (by omega)).trans zA;have yN:=(yk _ (Qi zN) (by omega)).trans zN;have yC:=(yk _ (Qi zC) (by omega)).trans zC;have zc:=Qi zC;have z7:∀i,i<H.length→Y[i]? =H[i]? :=fun i hi=>(yk i (by omega) (by omega)).trans (zk i hi);clear zA zM zN zC zk yk zc;clear Z;have z8:=j0b a;rw[z0b]at z8;have za:=(x1u a).add ha (Yf a a) 0 (by omega);rw[List.nil_append]at yM za;generalize zd:(Zs a [] (Yf a a)).map (fun s=>(s,0))=near1 at *
 obtain⟨R,hR⟩:∃R,Yd a=R:=⟨_,rfl⟩
 rw[hR]at z8 ⊢;have zb:=Qi yC;repeat first|(refine r_ ?_;simp)|refine q_ ?_
 refine Qr (Qd (sl':=[(1,.vptr H.length 0),(2,.top),(3,.vptr (H.length+2) 0),(4,.vptr (H.length+3) 0),(5,.fn (.func 145) [] [.vptr (H.length+3) 0,.vptr (H.length+2) 0]),(6,.vptr Y.length 0)]) ?_ (by simp));refine Qq (P:=Tryz.prog) (F:=fun(u:Nat×Nat×Ir×Nat×List AObj)=>⟨[(1,.vptr H.length 0),(2,.top),(3,.vptr (H.length+2) 0),(4,.vptr (H.length+3) 0),(5,.fn (.func 145) [] [.vptr (H.length+3) 0,.vptr (H.length+2) 0]),(6,.vptr u.1 0)],u.2.2.2.2⟩)
  (fun u=>NB a u.2.2.1∧1≤u.2.1∧u.2.1≤u.2.2.1.length+1∧a.fin.length * a.fin.length+1≤u.2.2.1.length+u.2.2.2.1∧R=Hz a u.2.2.2.1 u.2.1 u.2.2.1∧u.2.2.2.2[H.length]? =some (.vars (Q0 a))∧u.2.2.2.2[H.length+1]? =some (mpN u.2.2.1)∧u.2.2.2.2[H.length+2]? =some (.vars [.mref (H.length+1)])∧u.2.2.2.2[H.length+3]? =some (.vars [.i a.fin.length])∧u.2.2.2.2[u.1]? =some (.vars [.i u.2.1])∧∀i,i<H.length→u.2.2.2.2[i]? =H[i]?)
  (fun u=>u.2.2.2.1) ?_ (Y.length,1,near1,a.fin.length * a.fin.length+1,Y++[.vars [.i 1]]) ⟨za,zV _,by simp,by simp,z8,Qb yA _,Qb yM _,Qb yN _,Qb yC _,by simp,fun i hi=>by rw[zI (by omega)];exact z7 i hi⟩
 clear z8 za zd yA yM yN yC z7 zb;clear Y;rintro⟨D,d,near,F,G⟩ ⟨hb,ze,zf,hF,z1,gA,gM,gN,gC,gD,gk⟩ ih;simp only at hb ze zf hF z1 gA gM gN gC gD gk ih ⊢;have zi:=hb.len;have zj:a.fin.length * a.fin.length≤65536:=yY (sd z6.2 z6.2) (by decide);obtain⟨e,rfl⟩:∃e,d=e+1:=⟨d - 1,by omega⟩
 obtain⟨F,rfl⟩:∃f,F=f+1:=⟨F - 1,by omega⟩
 rw[x0t,z0u]at z1;repeat first|(refine r_ ?_;simp[gD])|refine q_ ?_
 refine Q4 rfl rfl (M7 a ha G (H.length+3) (H.length+2) (H.length+1) near (e+1) (fun s=>Zu near (e:Int) (Wh a a s)) 147 [.vptr H.length 0,.vptr (H.length+2) 0,.vptr D 0] gC gN gM hb.nk (fun p q H' hp hq hk=>FC.mono (c0l a ha H' H.length (H.length+2) (H.length+1) D near (e+1) ((hk _ (Qi gA)).trans gA) ((hk _ (Qi gN)).trans gN) ((hk _ (Qi gM)).trans gM) ((hk _ (Qi gD)).trans gD) (by omega) hb.nk p q hp hq) (fun r K ⟨h1,h2⟩=>⟨by rw[h1];congr 2;omega,h2⟩))) rfl ?_;rintro _ Y ⟨rfl,yM,yk⟩;simp;have zg:D≠H.length+1:=fun e=>by rw[e,gM]at gD;simp[mpN]at gD
 have yD:=(yk _ (Qi gD) zg).trans gD;have yA:=(yk _ (Qi gA) (by omega)).trans gA;have yN:=(yk _ (Qi gN) (by omega)).trans gN;have yC:=(yk _ (Qi gC) (by omega)).trans gC;have zl:=Qi gC;have z7:∀i,i<H.length→Y[i]? =H[i]? :=fun i hi=>(yk i (by omega) (by omega)).trans (gk i hi);have zh:=hb.add ha (fun s=>Zu near (e:Int) (Wh a a s)) (e+1) (by omega);generalize Zs a near (fun s=>Zu near (e:Int) (Wh a a s))=L at *
 refine Qa rfl (fun h=> ?_) (fun h=> ?_)
 ·have hL:0<L.length:=by simpa using h
  rw[if_neg (fun k=>by rw[k]at hL;simp at hL)]at z1;have hw:IntKind.i64.wrap ((e:Int)+1+1)=e+1+1:=wrap_i64 _ (by omega) (by omega);repeat first|(refine r_ ?_;simp[yD,hw])|refine q_ ?_
  refine Qd (sl':=[(1,.vptr H.length 0),(2,.top),(3,.vptr (H.length+2) 0),(4,.vptr (H.length+3) 0),(5,.fn (.func 145) [] [.vptr (H.length+3) 0,.vptr (H.length+2) 0]),(6,.vptr Y.length 0)]) ?_ (by simp);have zb:=Qi yC;refine ih (Y.length,e+1+1,near++L.map (fun s=>(s,e+1)),F,_) ⟨zh,by simp only;omega,by simp;omega,by simp;omega,z1,?_,?_,?_,?_,?_,fun i hi=> ?_⟩ (by simp only;omega)
  ·exact Qb yA _
  ·exact Qb yM _
  ·exact Qb yN _
  ·exact Qb yC _
  ·simp
  ·simp only;rw[zI (by omega)];exact z7 i hi
 ·have hL:L=[]:=by
   cases L with
   |nil=>rfl
   |cons x l=>simp at h
  subst hL;rw[if_pos rfl]at z1;subst z1;repeat first|(refine r_ ?_;simp[yN])|refine q_ ?_
  refine⟨by simpa using yM,hb,z7⟩
end Go.Abs
namespace Go.Abs
open Go Go.Proofs Go.Maps
end Go.Abs
namespace Go.Abs
open Go Go.Proofs Go.Maps Go.RowKit
theorem d1g(p q:Prd):X6 (Qo p) (Qo q)=Vh (Q1 p 0) (Q1 q 0):=by
 have h1:decide (((Q1 p 0).1:Int)<(Q1 q 0).1)=decide ((Q1 p 0).1<(Q1 q 0).1):=by rw[decide_eq_decide];omega
 have h2:decide (((Q1 p 0).1:Int)=(Q1 q 0).1)=decide ((Q1 p 0).1=(Q1 q 0).1):=by rw[decide_eq_decide];omega
 unfold X6 Vh Qo;simp only[h1,h2]
def w2a(p:Prd)(L:List Prd)(k:Nat):List Prd:=Yx p (L.take k)
def q2s(T:Nat)(l:List Prd)(i:Nat):List Prd:=U4 T (l.take i)
def w2e(L:List Prd)(i:Nat):List Prd:=(L.take i).foldl j06 []
attribute [local irreducible] w2a q2s w2e Ed Wz R3 Wo d01 U4 Yx Q1
end Go.Abs
namespace Go.Abs
open Go Go.Proofs Go.Maps Go.RowKit
def z2r(p:Prd):Bool:=p.any fun s=>decide (256<s.length)
def y2c(p:Prd):Int×Prd:=if z2r p then(5,[])else(0,p)
attribute [local irreducible] Q5 E2 z2r
attribute [local irreducible] T8 y2c
end Go.Abs
namespace Go.Abs
open Go Go.Proofs Go.Maps Go.RowKit
attribute [local irreducible] Wa Qo Zx y16 succS Ee z1y nxB Ua Zb Wf
end Go.Abs
namespace Go.Abs
open Go Go.Proofs Go.Maps Go.RowKit
attribute [local irreducible] Yz Wa Qo Zq detA Dm Ez stepG finB Bn Zb z1y nxB Ua w2f Wf
end Go.Abs
namespace Go.Abs
open Go Go.Proofs Go.Maps Go.RowKit
attribute [local irreducible] R4 A4 A0
end Go.Abs
namespace Go.Abs
open Go Go.Proofs Go.Maps Go.RowKit
attribute [local irreducible] Pp Fb Wf
attribute [local irreducible] Tv
def toD(a:Aut)(s:Int)(x:Sy)(j:Nat):Int:=match (a.mv.drop j).find? (fun m=>decide (m.src=s) && Tv m.on x)with|some m=>m.dst|none=> -1
attribute [local irreducible] toD toL
end Go.Abs
namespace Go.Abs
open Go Go.Proofs Go.Maps Go.RowKit
attribute [local irreducible] Qo Q5
end Go.Abs
