/- Part Ki of the proof: an abstract machine over the model, and what the functions of the program hand back in its terms. No condition. -/
import Derived.Test.YteghceocnldccaaGreatDoorKh
import Derived.Test.YteghceocnldccaaGreatDoorKg
import Derived.Test.YteghceocnldccaaGreatDoorKe
import Derived.Test.YteghceocnldccaaGreatDoorKf
import Derived.Test.YteghceocnldccaaGreatDoorKc
import Derived.Shelf.SlGeneric
import Derived.Ground.SlsfProg
import Derived.Shelf.SlSortCmp.WholeK
import Derived.Test.YteghceocnldccaaGreatDoorProg
import Derived.Test.YteghceocnldccaaGreatDoorKd
set_option linter.all false
open List renaming take_succ_eq_append_getElem→zP,map_append→yF,map_cons→yY,map_nil→wI,mem_append→zV,mem_singleton→zT,mem_map→zR,getElem_mem→zK,map→yX,take_length→yP,length_map→zZ,nodup_append→vB,getElem?_append_left→zF,getElem?_eq_some_iff→zE,getElem?_append_right→zH,getElem?_eq_getElem→zI,getD→yV,take_of_length_le→zO,getElem?_set_self→zL,getElem?_set_ne→zB,range→yJ,mem_range→yW,getElem_eq_iff→zY,filter_append→wY,foldl_append→wG,mem_filter→xL,append_nil→xD,findIdx?_map→tg,getElem?_map→zX,pairwise_map→wJ,pairwise_iff_getElem→yR,take_zero→ww,take_append_drop→xP,flatMap_append→x_,length_append→yB,mem_of_mem_take→xK,map_map→vN,foldl_cons→xZ,mem_cons→yE,ext_getElem?→xO,getElem_inj→vM,getElem?_eq_none→yZ,map_congr_left→xT,mem_of_getElem?→zJ,getElem?_mapIdx→vA,findIdx?_eq_none_iff→wL,findIdx?_eq_some_iff_getElem→xA,mem_append_left→xE,append_assoc→xW,range_succ→wp,flatMap_def→tp,length_cons→yS,length_filter_le→xM,getElem?_zipIdx→uY,mem_iff_getElem?→yK,length_take→xN
open Bool renaming eq_iff_iff→xU,not_eq_true→uC
open Prod renaming ext→uv
open Nat renaming le_refl→zQ,le_trans→yO,ne_of_lt→tI,zero_le→wn,lt_of_lt_of_le→wt
open Option renaming map_eq_some_iff→zU
open Int renaming le_refl→xH
set_option maxHeartbeats 16000000
set_option linter.unusedSimpArgs false
set_option maxRecDepth 100000
namespace Go.Abs
open Go Go.Proofs Go.Maps Go.RowKit
attribute [simp] x2k x2t
abbrev PQ:=(Int×Int)×List Sy
def Sm(e:PQ):AV:= .agg [.i e.1.1,.i e.1.2,.list (e.2.map encSy)]
def Pv(L:List PQ)(s:Int×Int):Bool:=decide (s∈L.map (·.1))
theorem u0n{L:List PQ}{s:Int×Int}{j:Nat}(h:j<L.length):Pv (L.take (j+1)) s=(Pv (L.take j) s || decide (L[j].1=s)):=by unfold Pv;rw[zP h,yF,yY,wI,xU,Bool.or_eq_true,decide_eq_true_eq,decide_eq_true_eq,decide_eq_true_eq,zV,zT];exact⟨fun k=>k.imp id Eq.symm,fun k=>k.imp id Eq.symm⟩
theorem x0n{L:List PQ}{s:Int×Int}{j:Nat}(h:j<L.length)(e:L[j].1=s):Pv L s=true:=by unfold Pv;rw[decide_eq_true_eq];exact zR.2 ⟨_,zK h,e⟩
theorem w1s(L:List PQ)(s:Int×Int)(hl:L.length≤1000000):PC Tryz.prog 149 [.list (L.map Sm),.i s.1,.i s.2] (fun r=>r= .bool (Pv L s)):=by
 refine Ql tOk Tryz.func149 rfl Tryz.results149 rfl (by simp[Tryz.ntmps149]) ?_;rw[Tryz.ntmps149];simp only[Qg];repeat first|(refine r_ ?_;simp)|refine q_ ?_
 refine Qr L.length (fun j=>Pv (L.take j) s=false) (fun j=>[(0,.list (L.map Sm)),(1,.i s.1),(2,.i s.2),(6,.bool false),(7,.i j)]) (fun _=>[]) rfl (by simp) (by simp) (by simp) (by simp) (by simp[Pv]) ?_;intro j hj hI ih;repeat first|(refine r_ ?_;simp)|refine q_ ?_
 refine Qb rfl (fun zd=> ?_) (fun ze=> ?_)
 ·have z1:j<L.length:=by simpa using zd
  have hw:IntKind.i64.wrap ((j:Int)+1)=j+1:=wrap_i64 _ (by omega) (by omega);have z6:(yX Sm L)[j]? =some (Sm L[j]):=by simp[z1]
  have z7:∀hh,(yX Sm L)[j]'hh=Sm L[j]:=fun hh=>by simp
  have z8:=u0n (s:=s) z1;have zf:=x0n (s:=s) z1;rw[hI,Bool.false_or]at z8;generalize L[j]=e at *;simp only[Sm]at z6 z7
  by_cases h1:e.1.1=s.1
  ·have za:(e.1.1==s.1)=true:=by simpa using h1
   repeat first|(refine r_ ?_;simp[z1,z6,z7,za])|refine q_ ?_
   refine Qb rfl (fun h2=> ?_) (fun h2=> ?_)
   ·have:e.1=s:=uv h1 (by simpa using h2);rw[zf this];repeat first|(refine r_ ?_;simp)|refine q_ ?_
   ·have zb:e.1≠s:=fun k=>by simp[k]at h2
    repeat first|(refine r_ ?_;simp[hw])|refine q_ ?_
    refine Qq _ (ih z1 (by rw[z8,decide_eq_false zb])) rfl (by simp) ?_ (by simp) (by simp);simp
  ·have za:(e.1.1==s.1)=false:=by simpa using h1
   have zb:e.1≠s:=fun k=>h1 (by rw[k]);repeat first|(refine r_ ?_;simp[z1,z6,z7,za])|refine q_ ?_
   refine Qb rfl (fun h2=>by simp at h2) (fun h2=> ?_);repeat first|(refine r_ ?_;simp[hw])|refine q_ ?_
   refine Qq _ (ih z1 (by rw[z8,decide_eq_false zb])) rfl (by simp) ?_ (by simp) (by simp);simp
 ·have zc:j=L.length:=by simp at ze;omega
  subst zc;rw[yP]at hI;rw[hI];repeat first|(refine r_ ?_;simp)|refine q_ ?_
structure PInv (a b:Aut) (L:List PQ):Prop where
 nd:(L.map (·.1)).Nodup
 rng:∀e∈L,inS a e.1.1∧inS b e.1.2
 wl:∀(i:Nat) (e:PQ),L[i]? =some e→e.2.length≤i
theorem PInv.len{a b:Aut}{L:List PQ}(h:PInv a b L):L.length≤a.fin.length * b.fin.length:=by
 have e:L.length=(L.map (·.1)).length:=by rw[zZ]
 rw[←Ob,e];refine Yh _ _ h.nd fun x hx=> ?_;obtain⟨e,he,rfl⟩:=zR.1 hx;exact A7 (h.rng e he).1 (h.rng e he).2
theorem PInv.add{a b:Aut}{L:List PQ}(h:PInv a b L){t:Int×Int}{w:List Sy}(ht:inS a t.1∧inS b t.2)(hw:w.length≤L.length)(hn:Pv L t=false):PInv a b (L++[(t,w)]):=by
 have z1:t∉L.map (·.1):=by simpa[Pv]using hn
 refine⟨?_,fun e he=> ?_,fun i e he=> ?_⟩
 ·rw[yF,vB];refine⟨h.nd,by simp,fun x hx y hy e=> ?_⟩;simp only[yY,wI,zT]at hy;exact z1 (by rw[←hy,←e];exact hx)
 ·rcases zV.1 he with he|he
  ·exact h.rng e he
  ·rw[zT.1 he];exact ht
 ·by_cases hi:i<L.length
  ·rw[zF hi]at he;exact h.wl i e he
  ·have z6:=zE.1 he |>.1;have:i=L.length:=by simp at z6;omega
   subst this;rw[zH (zQ _)]at he;simp at he;rw[←he];exact hw
theorem k1x(L:List PQ)(t:Int×Int)(w:List Sy):w1v L t w=if Pv L t=true then L else L++[(t,w)]:=by
 unfold w1v;by_cases h:t∈L.map (·.1)
 ·rw[if_pos h,if_pos (by simpa[Pv]using h)]
 ·rw[if_neg h,if_neg (by simpa[Pv]using h)]
theorem q13{good:Int×Int→Bool}{succ:Int×Int→List (Sy×(Int×Int))}{f n:Nat}{L:List PQ}(h:L[n]? =none):Ns good succ f n L=(none,L):=by
 cases f with
 |zero=>rw[Ns]
 |succ f=>rw[Ns,h]
theorem d0e{good:Int×Int→Bool}{succ:Int×Int→List (Sy×(Int×Int))}{f n:Nat}{L:List PQ}{s:Int×Int}{w:List Sy}(h:L[n]? =some (s,w)):Ns good succ (f+1) n L=if good s=true then(some w,L)else Ns good succ f (n+1) (Up L w (succ s)):=by rw[Ns,h]
theorem N2(L:List PQ)(w:List Sy)(e:Sy×(Int×Int))(es:List (Sy×(Int×Int))):Up L w (e::es)=Up (w1v L e.2 (w++[e.1])) w es:=rfl
theorem v0b{a b:Aut}{s:Int×Int}{k:Nat}(h:k<(E2 a b).length):(U3 a b s).drop k=((E2 a b)[k],Tn a b s (E2 a b)[k])::(U3 a b s).drop (k+1):=by
 have hk:k<(U3 a b s).length:=by simpa[U3]using h
 rw[List.drop_eq_getElem_cons hk];simp[U3]
theorem k06{a b:Aut}(s:Int×Int):(U3 a b s).length=(E2 a b).length:=by simp[U3]
theorem y03(L:List PQ)(w:List Sy):Up L w ([]:List (Sy×(Int×Int)))=L:=rfl
def k1e(r:Option (List Sy)):AV:= .tup [LSy (r.getD []),.bool r.isSome]
theorem j0x(a b:Aut)(p q:Int):Pb a b p q=Ns (Rs a b) (U3 a b) (a.fin.length * b.fin.length+1) 0 [((p,q),[])]:=rfl
theorem u03{a b:Aut}(ha:OkA a)(hb:OkA b)(ht:b.types=a.types){x:Sy}(hx:x∈E2 a b):Ru a x:=by have:=(Me ha hb ht (0,0)).mem (x,Tn a b (0,0) x) (zR.2 ⟨x,hx,rfl⟩);exact this.1
theorem N4{a b:Aut}(ha:OkA a)(hb:OkA b)(ht:b.types=a.types):(E2 a b).length≤40000000:=by obtain⟨z1,z6⟩:=q1h ha hb ht;have:=(Yv (T:=a.types.toNat) (by have:=ha.types;omega) (by have:=ha.types;omega) z1 z6).1;unfold E2;simpa using this
attribute [local irreducible] E2 toL Ns Up U3 Pv Rs Pb
theorem u09(a b:Aut)(ha:Dfa a)(hb:Dfa b)(ht:b.types=a.types)(p q:Int)(hp:inS a p)(hq:inS b q):PC Tryz.prog 91 [encA a,encA b,.i p,.i q] (fun r=>r=k1e (Pb a b p q).1):=by
 refine Ql tOk Tryz.func91 rfl Tryz.results91 rfl (by simp[Tryz.ntmps91]) ?_;rw[Tryz.ntmps91];simp only[Qg];simp only[encA];have zu:=ha.ok.fin;have zy:=hb.ok.fin;have yj:=ha.ok.mvs;have yk:=hb.ok.mvs;have zg:=fun x hx=>u03 ha.ok hb.ok ht (x:=x) hx;have y2:=N4 ha.ok hb.ok ht;rw[j0x];obtain⟨R,hR⟩:∃R,Ns (Rs a b) (U3 a b) (a.fin.length * b.fin.length+1) 0 [((p,q),[])]=R:=⟨_,rfl⟩
 rw[hR];have y3:∀s,(U3 a b s).length=(E2 a b).length:=fun s=>k06 s;have y4:=fun s k h=>v0b (a:=a) (b:=b) (s:=s) (k:=k) h;repeat first|(refine r_ ?_;simp)|refine q_ ?_
 refine Qf rfl rfl (by simp) (q0q a b ha.ok hb.ok ht) rfl ?_;rintro _ rfl;simp;generalize E2 a b=ls at *
 repeat first|(refine r_ ?_;simp)|refine q_ ?_
 have y5:PInv a b [((p,q),[])]:=⟨by simp,fun e he=>by rw[zT.1 he];exact⟨hp,hq⟩,fun i e he=>by
  have zf:=zE.1 he |>.1;have:i=0:=by simp at zf;omega
  subst this;simp at he;rw[←he];simp⟩
 refine Lm 2 rfl ?_;simp[AV.nrm];obtain⟨N,hN⟩:∃N,N=a.fin.length * b.fin.length:=⟨_,rfl⟩
 have ym:N≤65536:=by rw[hN];exact yO (Nat.mul_le_mul zu.2 zy.2) (by decide)
 rw[←hN]at hR;have zh:=fun L h=>PInv.len (a:=a) (b:=b) (L:=L) h;rw[←hN]at zh;refine Qp (Qc (sl':=[(4,.vptr 0 0),(5,.vptr 1 0),(8,.nils),(9,.bool false),(10,.list (ls.map encSy)),(11,.sl 2 3 0 ([((p,q),[])]:List PQ).length),(12,.i (0:Nat))]) ?_ (by simp));refine Qo (F:=fun(u:Nat×Nat×List PQ×List AObj)=>⟨[(4,.vptr 0 0),(5,.vptr 1 0),(8,.nils),(9,.bool false),(10,.list (ls.map encSy)),(11,.sl u.2.1 3 0 u.2.2.1.length),(12,.i u.1)],u.2.2.2⟩)
  (fun u=>u.1≤u.2.2.1.length∧PInv a b u.2.2.1∧u.2.2.2[0]? =some (.vars (Qu a))∧u.2.2.2[1]? =some (.vars (Qu b))∧u.2.2.2[u.2.1]? =some (.arr 204 3 (u.2.2.1.map Sm))∧Ns (Rs a b) (U3 a b) (N+1 - u.1) u.1 u.2.2.1=R) (fun u=>N+1 - u.1) ?_ (0,2,[((p,q),[])],_) ⟨by simp,y5,rfl,rfl,rfl,hR⟩
 rintro⟨n,l,L,H⟩ ⟨hn,hP,h0,h1,hl,hB⟩ ih;simp only at hn hP h0 h1 hl hB ih ⊢;have y6:=zh L hP;repeat first|(refine r_ ?_;simp)|refine q_ ?_
 refine Qb rfl (fun zf=> ?_) (fun y7=> ?_)
 ·have z7:n<L.length:=by simpa using zf
  have hw:IntKind.i64.wrap ((n:Int)+1)=n+1:=wrap_i64 _ (by omega) (by omega);have zi:L[n]? =some L[n]:=zI z7;have zb:=hP.rng _ (zK z7);have y8:=hP.wl n _ zi;have z8:(yX Sm L)[n]? =some (Sm L[n]):=by simp[z7]
  have za:∀hh,(yX Sm L)[n]'hh=Sm L[n]:=fun hh=>by simp
  generalize L[n]=e at *
  obtain⟨⟨s,t⟩,w⟩:=e;simp only[Sm]at z8 za zb y8;rw[show N+1 - n=(N - n)+1 by omega,d0e zi]at hB;repeat first|(refine r_ ?_;simp[hl,z8,za,z7])|refine q_ ?_
  refine Q4 fun Z hZ=> ?_;have z0:Z[0]? =some (.vars (Qu a)):=by rw[hZ];exact Qa h0 _
  have z1:Z[1]? =some (.vars (Qu b)):=by rw[hZ];exact Qa h1 _
  have zl:Z[l]? =some (.arr 204 3 (L.map Sm)):=by rw[hZ];exact Qa hl _
  have zx:Z[H.length]? =some (.vars [.i s,.i t,.list (w.map encSy)]):=by rw[hZ,zH (by simp)];simp
  clear hZ h0 h1 hl;generalize H.length=x at *;clear H
  obtain⟨zj,zk⟩:=zb;obtain⟨i,rfl⟩:∃i:Nat,s=i:=⟨s.toNat,(Sg zj).2.symm⟩
  obtain⟨j,rfl⟩:∃j:Nat,t=j:=⟨t.toNat,(Sg zk).2.symm⟩
  have hi:i<a.fin.length:=by have:=zj.2;omega
  have hj:j<b.fin.length:=by have:=zk.2;omega
  have zp:Rs a b ((i:Int),(j:Int))=(a.fin[i] != b.fin[j]):=by unfold Rs;simp[yV,hi,hj]
  rw[zp]at hB;refine Qn tOk mixed [] (.val 0 (.val 1 (.val 2 (.val 3 (.val 4 (.val 5 (.val 6 (.val 7 (.val 8 (.val 9 (.val 10 (.val 11 (.val 12 (.done)))))))))))))) rfl (by kernel_rfl) ?_;simp[z0,z1,zx,hi,hj];refine Qb rfl (fun hd=> ?_) (fun hd=> ?_)
  ·rw[if_pos (by simpa using hd)]at hB;rw[←hB];repeat first|(refine r_ ?_;simp[zx])|refine q_ ?_
   rfl
  ·rw[if_neg (by simpa using hd)]at hB;repeat first|(refine r_ ?_;simp)|refine q_ ?_
   refine Qp (Qc (sl':=[(4,.vptr 0 0),(5,.vptr 1 0),(8,.nils),(9,.bool false),(10,.list (ls.map encSy)),(11,.sl l 3 0 L.length),(12,.i n),(13,.vptr x 0),(14,.i (0:Nat))]) ?_ (by simp));refine Qo (F:=fun(u:Nat×Nat×List PQ×List AObj)=>⟨[(4,.vptr 0 0),(5,.vptr 1 0),(8,.nils),(9,.bool false),(10,.list (ls.map encSy)),(11,.sl u.2.1 3 0 u.2.2.1.length),(12,.i n),(13,.vptr x 0),(14,.i u.1)],u.2.2.2⟩)
    (fun u=>u.1≤ls.length∧n<u.2.2.1.length∧PInv a b u.2.2.1∧u.2.2.2[0]? =some (.vars (Qu a))∧u.2.2.2[1]? =some (.vars (Qu b))∧u.2.2.2[u.2.1]? =some (.arr 204 3 (u.2.2.1.map Sm))∧u.2.2.2[x]? =some (.vars [.i i,.i j,.list (w.map encSy)])∧Ns (Rs a b) (U3 a b) (N - n) (n+1) (Up u.2.2.1 w ((U3 a b ((i:Int),(j:Int))).drop u.1))=R) (fun u=>ls.length - u.1) ?_ (0,l,L,Z) ⟨by simp,z7,hP,z0,z1,zl,zx,by rw[List.drop_zero];exact hB⟩
   clear z0 z1 zl zx hB hP z7 zi z8 za y6 zf hd zp hi hj;clear hn;rintro⟨k,l2,L2,G⟩ ⟨hk,zq,zc,g0,g1,gl,gx,hB⟩ ih2;simp only at hk zq zc g0 g1 gl gx hB ih2 ⊢;have y9:=zh L2 zc;repeat first|(refine r_ ?_;simp)|refine q_ ?_
   refine Qb rfl (fun zm=> ?_) (fun zn=> ?_)
   ·have z6:k<ls.length:=by simpa using zm
    have zr:IntKind.i64.wrap ((k:Int)+1)=k+1:=wrap_i64 _ (by omega) (by omega);rw[y4 _ k z6,N2,k1x]at hB;have zt:=zg _ (zK z6);have z8:(yX encSy ls)[k]? =some (encSy ls[k]):=by simp[z6]
    have za:∀hh,(yX encSy ls)[k]'hh=encSy ls[k]:=fun hh=>by simp
    generalize ls[k]=y at *
    have ya:Tn a b ((i:Int),(j:Int)) y=(toL a i y,toL b j y):=rfl;simp only[ya]at hB;have yb:=(ha.next zj zt).1;have yc:=(hb.next zk (by unfold Ru at *;rw[ht];exact zt)).1;simp only[encSy]at z8 za;repeat first|(refine r_ ?_;simp)|refine q_ ?_
    refine Qn tOk mixed [] (.val 0 (.val 1 (.val 2 (.val 3 (.val 4 (.val 5 (.val 6 (.val 8 (.val 9 (.val 10 (.val 11 (.val 12 (.val 13 (.val 14 (.one 7 (.one 15 (.val 16 (.val 17 (.done))))))))))))))))))) rfl (by kernel_rfl) ?_;simp[g0,g1,gx,z6,z8,za];refine Qf rfl rfl (by simp) (k1a a ha.ok i y) rfl ?_;rintro _ rfl;simp[g0,g1,gx,z6,z8,za];refine Qf rfl rfl (by simp) (k1a b hb.ok j y) rfl ?_;rintro _ rfl;simp[g0,g1,gx,z6,z8,za];generalize toL a i y=s2 at *;generalize toL b j y=t2 at *
    have zd:(yX Sm L2).length=L2.length:=by simp
    have zo:List.take L2.length (yX Sm L2)=yX Sm L2:=zO (by simp);repeat first|(refine r_ ?_;simp)|refine q_ ?_
    refine Em rfl rfl (by first|(simp[gl,zo,zd];done)|(simp[gl,zo,zd];rfl)) (w1s L2 (s2,t2) (by omega)) rfl ?_;rintro _ rfl;refine⟨by first|simp|rfl|trivial,?_⟩;simp[gl,zo,zd];cases hky:Pv L2 (s2,t2)with
    |true=>
     rw[if_pos hky]at hB;refine Qk rfl ?_;repeat first|(refine r_ ?_;simp[zr])|refine q_ ?_
     refine Qc (sl':=[(4,.vptr 0 0),(5,.vptr 1 0),(8,.nils),(9,.bool false),(10,.list (ls.map encSy)),(11,.sl l2 3 0 L2.length),(12,.i n),(13,.vptr x 0),(14,.i (k+1:Nat))]) ?_ (by simp);exact ih2 (k+1,l2,L2,G) ⟨by omega,zq,zc,g0,g1,gl,gx,hB⟩ (by omega)
    |false=>
     rw[if_neg (by rw[hky];simp)]at hB;have yd:=zc.add ⟨yb,yc⟩ (w:=w++[y]) (by simp;omega) hky;refine Qk rfl ?_;repeat first|(refine r_ ?_;simp[gx])|refine q_ ?_
     refine Qe tOk rfl rfl T45 rfl T53 rfl (by decide) (by decide) rfl rfl rfl ?_;simp;refine⟨⟨fun v hv=> ?_,by simp;omega⟩,?_⟩
     ·obtain⟨c',_,rfl⟩:=zR.1 hv;exact⟨rfl,rfl⟩
     repeat first|(refine r_ ?_;simp[z8,za,z6])|refine q_ ?_
     refine Qe tOk rfl rfl T45 rfl T53 rfl (by decide) (by decide) rfl rfl rfl ?_;simp;refine⟨by simp[Wa]<;>omega,?_⟩;refine Rv fun Z hZ=> ?_;have zz:Z.length=G.length+4:=by rw[hZ];simp
     have z0:Z[0]? =some (.vars (Qu a)):=by rw[hZ];exact Qa g0 _
     have z1:Z[1]? =some (.vars (Qu b)):=by rw[hZ];exact Qa g1 _
     have zl:Z[l2]? =some (.arr 204 3 (L2.map Sm)):=by rw[hZ];exact Qa gl _
     have zx:Z[x]? =some (.vars [.i i,.i j,.list (w.map encSy)]):=by rw[hZ];exact Qa gx _
     have zw:Z[G.length+2]? =some (.arr 53 2 (w.map encSy++[.agg [.i y.ty,.i y.num]])):=by rw[hZ,zH (by omega)];simp
     have zv:Z[G.length+3]? =some (.va 204 3 [.agg [.i s2,.i t2,.sl (G.length+2) 2 0 (w.length+1)]]):=by rw[hZ,zH (by omega)];simp
     have yn:=Qh gl;have yo:=Qh gx;have g1t:=Qh g1;clear hZ g0 g1 gl gx;generalize G.length=m at *;clear G;refine Ce (m+2) zw (m+3) zv (by omega) rfl ?_
     simp[AObj.fz,AV.fz];rw[zO (by simp)];refine N6 (m+3) (e:=204) (c:=3) (xs:=[Sm ((s2,t2),w++[y])]) (by rw[zL (by simp;omega)];simp[Sm]) (by simp[AV.cells,AV.pure,Sm]) ?_;refine Rv fun Y hY=> ?_;have yy:Y.length=m+4:=by rw[hY];simp[zz]
     have y0:Y[0]? =some (.vars (Qu a)):=by rw[hY,zB (by omega),zB (by omega),zB (by omega)];exact z0
     have y1:Y[1]? =some (.vars (Qu b)):=by rw[hY,zB (by omega),zB (by omega),zB (by omega)];exact z1
     have yl:Y[l2]? =some (.arr 204 3 (L2.map Sm)):=by rw[hY,zB (by omega),zB (by omega),zB (by omega)];exact zl
     have yx:Y[x]? =some (.vars [.i i,.i j,.list (w.map encSy)]):=by rw[hY,zB (by omega),zB (by omega),zB (by omega)];exact zx
     have yv:Y[m+3]? =some (.arr 204 3 [Sm ((s2,t2),w++[y])]):=by rw[hY,zL (by simp;omega)]
     have yp:l2≠m+3:=by omega
     have ye:l2≠0:=fun e=>by rw[e,y0]at yl;simp at yl
     have yf:l2≠1:=fun e=>by rw[e,y1]at yl;simp at yl
     have yg:l2≠x:=fun e=>by rw[e,yx]at yl;simp at yl
     clear hY z0 z1 zl zx zw zv zz;clear Z;generalize m+3=v at *;refine Qe tOk rfl rfl x2t rfl x2k rfl (by decide) (by decide) rfl rfl rfl ?_
     simp[Qa yl,Qi yl,yl,yv,zd,Sm];refine⟨by simp[Wa,Qa yl,Qi yl,yl,yv,zd,Sm]<;>omega,?_⟩;repeat first|(refine r_ ?_;simp[zr])|refine q_ ?_
     refine Qc (sl':=[(4,.vptr 0 0),(5,.vptr 1 0),(8,.nils),(9,.bool false),(10,.list (ls.map encSy)),(11,.sl Y.length 3 0 (L2.length+1)),(12,.i n),(13,.vptr x 0),(14,.i (k+1:Nat))]) ?_ (by simp);have:=ih2 (k+1,Y.length,L2++[((s2,t2),w++[y])],(Y.set l2 .dead)++[.arr 204 3 ((L2++[((s2,t2),w++[y])]).map Sm)]) ⟨by omega,by simp;omega,yd,Qa (Qd ye y0 _) _,Qa (Qd yf y1 _) _,by rw[zH (by simp)];simp,Qa (Qd yg yx _) _,hB⟩ (by simp only;omega);simpa[Sm]using this
   ·have ze:k=ls.length:=by simp at zn;omega
    subst ze;have yh:(U3 a b ((i:Int),(j:Int))).length=ls.length:=y3 _;rw[List.drop_eq_nil_of_le (Nat.le_of_eq yh),y03]at hB;repeat first|(refine r_ ?_;simp[hw])|refine q_ ?_
    refine Qc (sl':=[(4,.vptr 0 0),(5,.vptr 1 0),(8,.nils),(9,.bool false),(10,.list (ls.map encSy)),(11,.sl l2 3 0 L2.length),(12,.i (n+1:Nat))]) ?_ (by simp);exact ih (n+1,l2,L2,G) ⟨by simp only;omega,zc,g0,g1,gl,by rw[show N+1 - (n+1)=N - n by omega];exact hB⟩ (by simp only;omega)
 ·have yi:n=L.length:=by simp at y7;omega
  rw[q13 (by rw[List.getElem?_eq_none_iff];omega)]at hB;rw[←hB];repeat first|(refine r_ ?_;simp)|refine q_ ?_
  rfl
end Go.Abs
namespace Go.Abs
open Go Go.Proofs Go.Maps Go.RowKit
instance inS_dec (a:Aut) (s:Int):Decidable (inS a s):=by unfold inS;exact inferInstance
def u1d(a:Aut)(p q:Int):Option (List Sy)×Int:=if A1 a≠0 then(none,A1 a)else if inS a p∧inS a q then((Pb a a p q).1,0)else(none,6)
def j17(r:Option (List Sy)×Int):AV:= .tup [LSy (r.1.getD []),.bool r.1.isSome,.i r.2]
attribute [local irreducible] A1 Pb
abbrev Ed (l:List Nat):List Int:=l.map fun x:Nat=>(x:Int)
theorem Ja{E:Nat→Bool}{i:Nat}(h:∀j,j<i→E j=false):(yJ i).find? E=none:=by rw[List.find?_eq_none];intro x hx;rw[h x (yW.1 hx)];simp
theorem Gc{E:Nat→Bool}{i k:Nat}(hk:k<i)(h:∀j,j<k→E j=false)(he:E k=true):(yJ i).find? E=some k:=by rw[List.find?_eq_some_iff_getElem];exact⟨he,k,by simpa using hk,by simp,fun j hj=>by simp[h j hj]⟩
theorem z14{a:Aut}(ha:Dfa a){i:Nat}(hi:i≤a.fin.length):(X7 (eqS a) i).2.length=i∧(X7 (eqS a) i).1≤i∧∀j,j<i→(X7 (eqS a) i).2.getD j 0<(X7 (eqS a) i).1:=by have h:=Ga (v0k ha) i hi;rw[N8 (v0k ha) i hi];refine⟨h.len,?_,fun j hj=>h.lt_fs hj⟩;have z1:(O4 (eqS a) i).1.Nodup:=h.asc.imp fun h=>tI h;have:=Yh _ (yJ i) z1 fun x hx=>yW.2 (h.lt x hx);simpa using this
attribute [local irreducible] eqS X7
theorem v0m(a:Aut)(ha:Dfa a):PC Tryz.prog 87 [encA a] (fun r=>r=LI (Ed (clA a))):=by
 refine Ql tOk Tryz.func87 rfl Tryz.results87 rfl (by simp[Tryz.ntmps87]) ?_;rw[Tryz.ntmps87];simp only[Qg];simp only[encA];have zm:=ha.ok.fin;have zn:clA a=(X7 (eqS a) a.fin.length).2:=by rw[N8 (v0k ha) _ (zQ _)];rfl
 repeat first|(refine r_ ?_;simp)|refine q_ ?_
 refine Q3 3 3 1 rfl ?_;simp;obtain⟨K,hK⟩:∃K,K=[AObj.vars (Qu a)]:=⟨_,rfl⟩
 have zo:K[0]? =some (.vars (Qu a)):=by rw[hK];rfl
 have zk:=SL.start K 3 1;have zl:X7 (eqS a) 0=(0,[]):=by unfold X7;rfl
 refine Qp (Qc (sl':=[(1,.vptr 0 0),(2,.nils),(3,.sl 1 1 0 0),(4,.i (X7 (eqS a) 0).1),(5,.i (0:Nat))]) ?_ (by simp[zl]));refine Qo (F:=fun(u:Nat×Nat×List AObj)=>⟨[(1,.vptr 0 0),(2,.nils),(3,.sl u.2.1 1 0 u.1),(4,.i (X7 (eqS a) u.1).1),(5,.i u.1)],u.2.2⟩)
  (fun u=>u.1≤a.fin.length∧SL K u.2.2 u.2.1 3 1 ((Ed (X7 (eqS a) u.1).2).map AV.i)) (fun u=>a.fin.length - u.1) ?_ (0,1,_) ⟨by simp,by rw[zl];rw[hK]at zk ⊢;exact zk⟩
 rintro⟨i,q,H⟩ ⟨hi,g⟩ ih;simp only at hi g ih ⊢;have g0:=g.kp zo;have ga:=g.arr;obtain⟨f1,f2,f3⟩:=z14 ha hi;repeat first|(refine r_ ?_;simp[g0])|refine q_ ?_
 refine Qb rfl (fun zp=> ?_) (fun zq=> ?_)
 ·have za:i<a.fin.length:=by simpa using zp
  have hw:IntKind.i64.wrap ((i:Int)+1)=i+1:=wrap_i64 _ (by omega) (by omega);have zr:=Br (eqS a) i;have z6:=fun q' H'=>ih (i+1,q',H');simp only[zr]at z6;unfold Cc at z6;have z7:((Ed (X7 (eqS a) i).2).map AV.i).length=i:=by simpa using f1
  have zt:=fun k (hk:k<i)=>x1i ha (i:=i) (k:=k) za (by omega);generalize X7 (eqS a) i=st at *
  obtain⟨nx,out⟩:=st;simp only at z6 f1 f2 f3 g ga z7;repeat first|(refine r_ ?_;simp)|refine q_ ?_
  refine Qp (Qc (sl':=[(1,.vptr 0 0),(2,.nils),(3,.sl q 1 0 i),(4,.i nx),(5,.i i),(6,.i (nx:Nat)),(7,.i (0:Nat))]) ?_ (by simp));refine Qo (F:=fun(u:Nat×Nat)=>⟨[(1,.vptr 0 0),(2,.nils),(3,.sl q 1 0 i),(4,.i nx),(5,.i i),(6,.i u.2),(7,.i u.1)],H⟩)
   (fun u=>u.1≤i∧((u.2=nx∧∀j,j<u.1→eqS a i j=false)∨∃k0,(yJ i).find? (eqS a i)=some k0∧u.2=out.getD k0 0∧k0<i)) (fun u=>i - u.1) ?_ (0,nx) ⟨by simp,.inl ⟨rfl,fun j hj=>by omega⟩⟩
  rintro⟨k,cl⟩ ⟨hk,hc⟩ ih2;simp only at hk hc ih2 ⊢;have zu:k<i→IntKind.i64.wrap ((k:Int)+1)=k+1:=fun h=>wrap_i64 _ (by omega) (by omega);have zv:IntKind.i64.wrap ((nx:Int)+1)=nx+1:=wrap_i64 _ (by omega) (by omega);have zx:(Ed out).length=i:=by simpa using f1
  have zw:k<i→((Ed out).map AV.i)[k]? =some (.i (out.getD k 0:Nat)):=fun h=>by simp[yV,f1,h]
  by_cases z8:k<i
  ·have zb:=zw z8;have zc:=zu z8;have ze:∀hh,((Ed out).map AV.i)[k]'hh= .i (out.getD k 0:Nat):=fun hh=>(zY hh).2 zb;rcases hc with⟨rfl,hE⟩|⟨k0,hf,rfl,zf⟩
   ·repeat first|(refine r_ ?_;simp[z8])|refine q_ ?_
    refine Qb rfl (fun _=> ?_) (fun h=>by simp at h);repeat first|(refine r_ ?_;simp[g0])|refine q_ ?_
    refine Qf rfl rfl (by simp) (u09 a a ha ha rfl i k (Ye za) (Ye (by omega))) rfl ?_;rintro _ rfl;simp;have zd:=zt k z8;cases hr:(Pb a a i k).1 with
    |none=>
     rw[hr]at zd;simp[k1e];repeat first|(refine r_ ?_;simp)|refine q_ ?_
     refine Qk rfl ?_;generalize z1:(Ed out).map AV.i=acc at *
     repeat first|(refine r_ ?_;simp[ga,zb,ze,z7,z8,zc])|refine q_ ?_
     refine Qc (sl':=[(1,.vptr 0 0),(2,.nils),(3,.sl q 1 0 i),(4,.i cl),(5,.i i),(6,.i (out.getD k 0:Nat)),(7,.i (k+1:Nat))]) ?_ (by simp);exact ih2 (k+1,out.getD k 0) ⟨by simp only;omega,.inr ⟨k,Gc z8 hE (by rw[zd];rfl),rfl,z8⟩⟩ (by simp only;omega)
    |some w=>
     rw[hr]at zd;simp[k1e];repeat first|(refine r_ ?_;simp)|refine q_ ?_
     refine Qk rfl ?_;repeat first|(refine r_ ?_;simp[zc])|refine q_ ?_
     refine Qc (sl':=[(1,.vptr 0 0),(2,.nils),(3,.sl q 1 0 i),(4,.i cl),(5,.i i),(6,.i cl),(7,.i (k+1:Nat))]) ?_ (by simp);exact ih2 (k+1,cl) ⟨by simp only;omega,.inl ⟨rfl,fun j hj=>by
      by_cases e:j=k
      ·subst e;rw[zd];rfl
      ·exact hE j (by simp only at hj;omega)⟩⟩ (by simp only;omega)
   ·have zg:=f3 k0 zf;have zh:¬((out.getD k0 0:Nat):Int)=nx:=by omega
    rw[hf]at z6;simp only at z6;generalize out.getD k0 0=c at *
    have zi:((c:Int)==(nx:Int))=false:=by simpa using zh
    repeat first|(refine r_ ?_;simp[z8,zi])|refine q_ ?_
    refine Qb rfl (fun h=>by first|(simp at h;done)|(simp at h;omega)) (fun _=> ?_);repeat first|(refine r_ ?_;simp)|refine q_ ?_
    refine Qb rfl (fun h=>by first|(simp at h;done)|(simp at h;omega)) (fun _=> ?_);generalize z1:(Ed out).map AV.i=acc at *
    repeat first|(refine r_ ?_;simp)|refine q_ ?_
    refine Qe tOk rfl rfl T40 rfl T3 rfl (by decide) (by decide) rfl rfl rfl ?_;simp[Qa ga,Qi ga,z7];refine⟨by simp[Wa,Qa ga,Qi ga,z7]<;>omega,?_⟩;repeat first|(refine r_ ?_;simp[hw])|refine q_ ?_
    refine Qc (sl':=[(1,.vptr 0 0),(2,.nils),(3,.sl (H.length+1) 1 0 (i+1)),(4,.i nx),(5,.i (i+1:Nat))]) ?_ (by simp);exact z6 (H.length+1) _ ⟨by omega,by simp only[show(Ed (out++[c])).map AV.i=acc++[.i c] by rw[←z1];simp];exact g.put [AObj.arr 3 1 [.i c]] (acc++[.i c]) rfl⟩ (by omega)
  ·have zy:decide ((k:Int)<i)=false:=by simp;omega
   rcases hc with⟨rfl,hE⟩|⟨k0,hf,rfl,zf⟩
   ·have hf:(yJ i).find? (eqS a i)=none:=Ja fun j hj=>hE j (by omega);rw[hf]at z6;simp only at z6;repeat first|(refine r_ ?_;simp[z8])|refine q_ ?_
    refine Qb rfl (fun h=>by first|(simp at h;done)|(simp at h;omega)) (fun _=> ?_);repeat first|(refine r_ ?_;simp)|refine q_ ?_
    refine Qb rfl (fun _=> ?_) (fun h=>by first|(simp at h;done)|(simp at h;omega));generalize z1:(Ed out).map AV.i=acc at *
    repeat first|(refine r_ ?_;simp[zv])|refine q_ ?_
    refine Qe tOk rfl rfl T40 rfl T3 rfl (by decide) (by decide) rfl rfl rfl ?_;simp[Qa ga,Qi ga,z7];refine⟨by simp[Wa,Qa ga,Qi ga,z7]<;>omega,?_⟩;repeat first|(refine r_ ?_;simp[hw])|refine q_ ?_
    refine Qc (sl':=[(1,.vptr 0 0),(2,.nils),(3,.sl (H.length+1) 1 0 (i+1)),(4,.i (cl+1:Nat)),(5,.i (i+1:Nat))]) ?_ (by simp);exact z6 (H.length+1) _ ⟨by omega,by simp only[show(Ed (out++[cl])).map AV.i=acc++[.i cl] by rw[←z1];simp];exact g.put [AObj.arr 3 1 [.i cl]] (acc++[.i cl]) rfl⟩ (by omega)
   ·have zg:=f3 k0 zf;have zh:¬((out.getD k0 0:Nat):Int)=nx:=by omega
    rw[hf]at z6;simp only at z6;generalize out.getD k0 0=c at *
    have zi:((c:Int)==(nx:Int))=false:=by simpa using zh
    repeat first|(refine r_ ?_;simp[z8,zi])|refine q_ ?_
    refine Qb rfl (fun h=>by first|(simp at h;done)|(simp at h;omega)) (fun _=> ?_);repeat first|(refine r_ ?_;simp)|refine q_ ?_
    refine Qb rfl (fun h=>by first|(simp at h;done)|(simp at h;omega)) (fun _=> ?_);generalize z1:(Ed out).map AV.i=acc at *
    repeat first|(refine r_ ?_;simp)|refine q_ ?_
    refine Qe tOk rfl rfl T40 rfl T3 rfl (by decide) (by decide) rfl rfl rfl ?_;simp[Qa ga,Qi ga,z7];refine⟨by simp[Wa,Qa ga,Qi ga,z7]<;>omega,?_⟩;repeat first|(refine r_ ?_;simp[hw])|refine q_ ?_
    refine Qc (sl':=[(1,.vptr 0 0),(2,.nils),(3,.sl (H.length+1) 1 0 (i+1)),(4,.i nx),(5,.i (i+1:Nat))]) ?_ (by simp);exact z6 (H.length+1) _ ⟨by omega,by simp only[show(Ed (out++[c])).map AV.i=acc++[.i c] by rw[←z1];simp];exact g.put [AObj.arr 3 1 [.i c]] (acc++[.i c]) rfl⟩ (by omega)
 ·have zj:i=a.fin.length:=by simp at zq;omega
  subst zj;rw[zn];have z7:((Ed (X7 (eqS a) a.fin.length).2).map AV.i).length=a.fin.length:=by simpa using f1
  generalize z1:(Ed (X7 (eqS a) a.fin.length).2).map AV.i=acc at *
  repeat first|(refine r_ ?_;simp[ga,z7])|refine q_ ?_
  rw[zO (by omega),←z1];simp
def u1q(a:Aut):List Int×Int:=if A1 a≠0 then([],A1 a)else(Ed (clA a),0)
end Go.Abs
namespace Go.Abs
open Go Go.Proofs Go.Maps Go.RowKit
def bst(near:Ix)(d:Nat)(pre:List Stp):Option Stp:=c05 (pre.filter fun e=>decide (lkN near e.2=some d))
def k12(near:Ix)(d:Nat)(b:Option Stp)(e:Stp):Option Stp:=if lkN near e.2=some d then(match b with|none=>some e|some c=>if Kz e.1 c.1 then some e else some c)else b
theorem g0s(near:Ix)(d:Nat):bst near d []=none:=rfl
theorem v16(near:Ix)(d:Nat)(pre:List Stp)(e:Stp):bst near d (pre++[e])=k12 near d (bst near d pre) e:=by
 unfold bst k12 c05;rw[wY,wG];by_cases h:lkN near e.2=some d
 ·rw[if_pos h];have:[e].filter (fun e=>decide (lkN near e.2=some d))=[e]:=by simp[h]
  rw[this];rfl
 ·rw[if_neg h];have:[e].filter (fun e=>decide (lkN near e.2=some d))=[]:=by simp[h]
  rw[this];rfl
theorem j13{near:Ix}{d:Nat}{es:List Stp}{e:Stp}(h:bst near d es=some e):e∈es:=by
 have z1:es.filter (fun e=>decide (lkN near e.2=some d))≠[]:=fun k=>by rw[bst,k]at h;cases h
 obtain⟨f,h1,h2,_⟩:=Bj z1;rw[bst,h1]at h;cases h;exact(xL.1 h2).1
def d1p(b:Option Stp):List AV:=match b with
 |some e=>[.i e.1.ty,.i e.1.num,.i e.2.1,.i e.2.2]
 |none=>[.i 0,.i 0,.i 0,.i 0]
theorem x01(a:Aut)(near:Ix)(s:Int×Int):Ub a near 0 s=[]:=by rw[Ub]
def d1m(b:Option Stp):Int×Int:=match b with
 |some e=>e.2
 |none=>(0,0)
def d1l(b:Option Stp):Sy:=match b with
 |some e=>e.1
 |none=>⟨0,0⟩
theorem u08(a:Aut)(near:Ix)(d:Nat)(s:Int×Int):Ub a near (d+1) s=d1l (bst near d (Ws a a s))::Ub a near d (d1m (bst near d (Ws a a s))):=by rw[Ub];unfold bst;cases c05 ((Ws a a s).filter fun e=>decide (lkN near e.2=some d))<;>rfl
theorem c1o{a:Aut}{near:Ix}(h:NB a near)(s:Int×Int):(lkN near s).getD 0≤1000000:=by
 cases hl:lkN near s with
 |none=>simp
 |some k=>unfold lkN at hl;obtain⟨e,he,rfl⟩:=zU.1 hl;exact h.bd e (List.mem_of_find?_eq_some he)
theorem P2(b:Option Stp):d1p b=[.i (d1l b).ty,.i (d1l b).num,.i (d1m b).1,.i (d1m b).2]:=by cases b<;>rfl
attribute [local irreducible] Wk Ev Yj Ws Rs lkN bst Ub Kz
theorem k1u(a:Aut)(ha:OkA a)(H:List AObj)(M:Nat)(near:Ix)(hM:H[M]? =some (mpN near))(hb:NB a near)(p q:Int)(hp:inS a p)(hq:inS a q):
  FC Tryz.prog 90 [R3 a,.mref M,.i p,.i q] H (fun r H'=>r=LSy (Ub a near ((lkN near (p,q)).getD 0) (p,q))∧∀i,i<H.length→H'[i]? =H[i]?):=by
 refine Ea tOk Tryz.func90 rfl Tryz.results90 rfl (by simp[Tryz.ntmps90]) ?_;rw[Tryz.ntmps90];simp only[Qg];simp only[R3,We];have zl:=ha.fin;have y3:=Qh hM;repeat first|(refine r_ ?_;simp)|refine q_ ?_
 refine Vc rfl rfl rfl rfl (s:=(p,q)) rfl (near:=near) (Qa hM _) hb.nk (D4 ha ha ⟨hp,hq⟩) ?_;simp;have y4:=c1o hb (p,q);generalize (lkN near (p,q)).getD 0=d at *
 repeat first|(refine r_ ?_;simp)|refine q_ ?_
 refine Qs (sl':=[(2,.i p),(3,.i q),(4,.vptr H.length 0),(5,.vptr (H.length+1) 0),(8,.nils),(9,.nils),(10,.vptr (H.length+2) 0)]) ?_ (by simp);refine Q3 9 53 2 rfl ?_;simp;obtain⟨K,hK⟩:∃K,K=H++[AObj.vars (We a),.vars [.mref M]]:=⟨_,rfl⟩
 have y5:K.length=H.length+2:=by rw[hK];simp
 have KA:K[H.length]? =some (.vars (We a)):=by rw[hK,zH (by omega)];simp
 have KN:K[H.length+1]? =some (.vars [.mref M]):=by rw[hK,zH (by omega)];simp
 have KM:K[M]? =some (mpN near):=by rw[hK];exact Qa hM _
 have Kk:∀i,i<H.length→K[i]? =H[i]? :=fun i hi=>by rw[hK,zF hi]
 refine Q4 fun Z hZ=> ?_;have zS:SL K Z (H.length+3) 53 2 (([]:List Sy).map encSy):=by
  rw[hZ];refine⟨by rw[zH (by omega)];simp,by omega,fun j hj=> ?_⟩;rw[hK];by_cases h:j<H.length
  ·rw[zF h,zF h]
  ·rw[zH (by omega),zH (by omega)];obtain rfl|rfl:j=H.length∨j=H.length+1:=by omega
   ·simp[We]
   ·simp
 have zD:Z[H.length+2]? =some (.vars [.i d]):=by rw[hZ,zH (by omega)];simp
 clear hZ;obtain⟨W,hW⟩:∃W,Ub a near d (p,q)=W:=⟨_,rfl⟩
 rw[hW];refine Qp (Qc (sl':=[(2,.i p),(3,.i q),(4,.vptr H.length 0),(5,.vptr (H.length+1) 0),(8,.nils),(9,.sl (H.length+3) 2 0 ([]:List Sy).length),(10,.vptr (H.length+2) 0)]) ?_ (by simp));refine Qo (P:=Tryz.prog) (F:=fun(u:Nat×List Sy×(Int×Int)×Nat×Nat×List AObj)=>⟨[(2,.i u.2.2.1.1),(3,.i u.2.2.1.2),(4,.vptr H.length 0),(5,.vptr (H.length+1) 0),(8,.nils),(9,.sl u.2.2.2.1 2 0 u.2.1.length),(10,.vptr u.2.2.2.2.1 0)],u.2.2.2.2.2⟩)
  (fun u=>u.2.1.length+u.1=d∧W=u.2.1++Ub a near u.1 u.2.2.1∧inS a u.2.2.1.1∧inS a u.2.2.1.2∧SL K u.2.2.2.2.2 u.2.2.2.1 53 2 (u.2.1.map encSy)∧u.2.2.2.2.2[u.2.2.2.2.1]? =some (.vars [.i u.1])∧K.length≤u.2.2.2.2.1) (fun u=>u.1) ?_ (d,[],(p,q),H.length+3,H.length+2,Z) ⟨by simp,by simpa using hW.symm,hp,hq,zS,zD,by simp only;omega⟩
 clear zS zD hW hp hq;clear Z;rintro⟨e,w,s,q',D,G⟩ ⟨zm,za,zf,zg,hs,gD,zn⟩ ih;simp only at zm za zf zg hs gD zn ih ⊢;have gA:=hs.kp KA;have gN:=hs.kp KN;have gM:=hs.kp KM;have gk:∀i,i<H.length→G[i]? =H[i]? :=fun i hi=>(hs.keep i (by omega)).trans (Kk i hi);repeat first|(refine r_ ?_;simp[gD])|refine q_ ?_
 refine Qb rfl (fun zo=> ?_) (fun zp=> ?_)
 ·obtain⟨e,rfl⟩:∃f,e=f+1:=⟨e - 1,by simp at zo;omega⟩
  rw[u08]at za;have hw:IntKind.i64.wrap ((e:Int)+1 - 1)=e:=by rw[show(e:Int)+1 - 1=e by omega];exact wrap_i64 _ (by omega) (by omega)
  have z8:IntKind.i64.wrap (e:Int)=e:=wrap_i64 _ (by omega) (by omega);have gA2:∀L,(G++L)[H.length]? =some (.vars [.i a.types,.list (a.fin.map .bool),.list (a.mv.map encMv),.list (Yj a)]):=fun L=>Qa gA L;repeat first|(refine r_ ?_;simp[gA2])|refine q_ ?_
  refine Qf rfl rfl (by simp) (y0l a a s.1 s.2) rfl ?_;rintro _ rfl;simp;repeat first|(refine r_ ?_;simp)|refine q_ ?_
  obtain⟨best,z7⟩:∃best,bst near e (Ws a a s)=best:=⟨_,rfl⟩
  refine R7 rfl (Rf:=fun _ H'=>(∃sl' zd a' b',H'[G.length+2]? =some (.lp true none 71 sl' zd a' b'))∧H'[G.length]? =some (.vars (d1p best))∧∀i,i<G.length→H'[i]? =G[i]?) ?_ ?_
  ·simp;refine B1 fun H1 zb=> ?_;have f0:H1[G.length]? =some (.vars (d1p none)):=by rw[zb,zH (by omega)];simp[d1p]
   have f1:H1[G.length+1]? =some (.vars [.bool false]):=by rw[zb,zH (by omega)];simp
   have fk:∀i,i<G.length→H1[i]? =G[i]? :=fun i hi=>by rw[zb,zF hi]
   have fl:=congrArg (fun h:List AObj=>h[G.length+2]?) zb;have y6:H1.length=G.length+3:=by rw[zb];simp
   simp at fl;clear zb;refine FC.mono (Be a a ha ha rfl s.1 s.2 zf zg (G.length+2) (by rfl) (by rfl)
    (fun pre H'=>H'[G.length+2]? =H1[G.length+2]? ∧H'[G.length]? =some (.vars (d1p (bst near e pre)))∧H'[G.length+1]? =some (.vars [.bool (bst near e pre).isSome])∧∀i,i<G.length→H'[i]? =G[i]?)
    (fun c H'=>False) H1
    (fun k H' ⟨h2,_,_,_⟩=>h2.trans fl) ?_ ?_ ⟨rfl,by rw[g0s];exact f0,by rw[g0s];exact f1,fk⟩) ?_
   ·rintro k H' L ⟨h2,h3,h5,h4⟩;exact⟨by rw[←h2,zF (by rw[fl]at h2;exact Qh h2)],Qa h3 _,Qa h5 _,fun i hi=>by rw[zF (by have:=Qh h3;omega)];exact h4 i hi⟩
   ·rintro pre x post H' zq ⟨h2,h3,h5,h4⟩ hlen;simp[T6];have zr:=X5 ha ha (show x∈Ws a a s by rw[zq];simp);have zt:=D4 ha ha zr;have y7:=Qh (h2.trans fl);have z6:=v16 near e pre x;have zz:=Qj (h2.trans fl) .dead;have z0:(H'.set (G.length+2) .dead)[G.length]? =some (.vars (d1p (bst near e pre))):=Qd (j:=G.length+2) (by omega) h3 _;have z1:(H'.set (G.length+2) .dead)[G.length+1]? =some (.vars [.bool (bst near e pre).isSome]):=Qd (j:=G.length+2) (by omega) h5 _;have zk:∀i,i<G.length→(H'.set (G.length+2) .dead)[i]? =G[i]? :=fun i hi=>by rw[zB (by omega)];exact h4 i hi
    have zv:∀i cs,H1.length≤i→H'[i]? =some (.vars cs)→(H'.set (G.length+2) .dead)[i]? =some (.vars cs):=fun i cs hi hc=>by rw[zB (by omega)];exact hc
    have zu:(H'.set (G.length+2) .dead).length=H'.length:=by simp
    rw[←zu];generalize H'.set (G.length+2) .dead=Z at *
    have zN:=(zk _ (Qh gN)).trans gN;have zM:=(zk _ (Qh gM)).trans gM;have zD:=(zk _ (Qh gD)).trans gD;have zNA:∀L,(Z++L)[H.length+1]? =some (.vars [.mref M]):=fun L=>Qa zN L;have zDA:∀L,(Z++L)[D]? =some (.vars [.i ((e:Int)+1)]):=fun L=>Qa zD L;have z1A:∀L,(Z++L)[G.length+1]? =some (.vars [.bool (bst near e pre).isSome]):=fun L=>Qa z1 L;simp only[g1z];repeat first|(refine r_ ?_;simp[zNA,zDA])|refine q_ ?_
    refine Ym rfl rfl rfl rfl (s:=x.2) rfl (near:=near) (Qa zM _) hb.nk zt ?_;simp;unfold k12 at z6;rw[P2]at z0;have z0A:=fun L=>Qa z0 L;have z0H:=fun L hh=>(zY hh).2 (z0A L);have z1H:∀L hh,(Z++L)[G.length+1]'hh= .vars [.bool (bst near e pre).isSome]:=fun L hh=>(zY hh).2 (z1A L);generalize bst near e pre=b at *;generalize lkN near x.2=lk at *
    cases lk with
    |none=>
     rw[if_neg (by simp)]at z6;cases b with
     |none=>
      simp at z1A z1H;repeat first|(refine r_ ?_;simp[zDA,z8,z1A,z1H,z0A,z0H])|refine q_ ?_
      refine Q6 rfl rfl ?_;simp;repeat first|(refine r_ ?_;simp)|refine q_ ?_
      refine Qk rfl ?_;repeat first|(refine r_ ?_;simp)|refine q_ ?_
      refine⟨Qa zz _,rfl,⟨?_,?_,?_,fun i hi=> ?_⟩,fun i cs hi hc=> ?_⟩
      ·rw[fl];exact Qj (Qa zz _) _
      ·rw[z6,P2];exact z0A _
      ·rw[z6];exact z1A _
      ·rw[zB (by omega),zF (by omega)];exact zk i hi
      ·exact Qd (j:=G.length+2) (by omega) (Qa (zv i cs hi hc) _) _
     |some c=>
      simp at z1A z1H;repeat first|(refine r_ ?_;simp[zDA,z8,z1A,z1H,z0A,z0H])|refine q_ ?_
      refine Q6 rfl rfl ?_;simp;repeat first|(refine r_ ?_;simp)|refine q_ ?_
      refine Qk rfl ?_;repeat first|(refine r_ ?_;simp)|refine q_ ?_
      refine⟨Qa zz _,rfl,⟨?_,?_,?_,fun i hi=> ?_⟩,fun i cs hi hc=> ?_⟩
      ·rw[fl];exact Qj (Qa zz _) _
      ·rw[z6,P2];exact z0A _
      ·rw[z6];exact z1A _
      ·rw[zB (by omega),zF (by omega)];exact zk i hi
      ·exact Qd (j:=G.length+2) (by omega) (Qa (zv i cs hi hc) _) _
    |some kd=>
     by_cases hkd:kd=e
     ·subst hkd;rw[if_pos rfl]at z6;cases b with
      |none=>
       simp at z1A z1H;simp only at z6;repeat first|(refine r_ ?_;simp[zDA,z8,z1A,z1H,z0A,z0H])|refine q_ ?_
       refine Q6 rfl rfl ?_;simp;repeat first|(refine r_ ?_;simp)|refine q_ ?_
       refine Qk rfl ?_;repeat first|(refine r_ ?_;simp[z0A,z0H,z1A,z1H,Qj z1])|refine q_ ?_
       refine⟨?_,rfl,⟨?_,?_,?_,fun i hi=> ?_⟩,fun i cs hi hc=> ?_⟩
       ·exact Qd (j:=G.length+1) (by omega) (Qd (j:=G.length) (by omega) (Qa zz _) _) _
       ·rw[fl];exact Qj (Qd (j:=G.length+1) (by omega) (Qd (j:=G.length) (by omega) (Qa zz _) _) _) _
       ·rw[z6];exact Qd (j:=G.length+1) (by omega) (Qj (z0A _) _) _
       ·rw[z6];exact Qj (Qd (j:=G.length) (by omega) (z1A _) _) _
       ·rw[zB (by omega),zB (by omega),zB (by omega),zF (by omega)];exact zk i hi
       ·exact Qd (j:=G.length+2) (by omega) (Qd (j:=G.length+1) (by omega) (Qd (j:=G.length) (by omega) (Qa (zv i cs hi hc) _) _) _) _
      |some c=>
       simp at z1A z1H;simp only at z6;repeat first|(refine r_ ?_;simp[zDA,z8,z1A,z1H,z0A,z0H])|refine q_ ?_
       refine Qf rfl rfl (by simp) (L0 x.1 (d1l (some c))) rfl ?_;rintro _ rfl;simp[z0A];cases hbf:Kz x.1 (d1l (some c))with
       |true=>
        rw[if_pos (show Kz x.1 c.1=true from hbf)]at z6;repeat first|(refine r_ ?_;simp)|refine q_ ?_
        refine Qk rfl ?_;repeat first|(refine r_ ?_;simp[z0A,z0H,z1A,z1H,Qj z1])|refine q_ ?_
        refine⟨?_,rfl,⟨?_,?_,?_,fun i hi=> ?_⟩,fun i cs hi hc=> ?_⟩
        ·exact Qd (j:=G.length+1) (by omega) (Qd (j:=G.length) (by omega) (Qa zz _) _) _
        ·rw[fl];exact Qj (Qd (j:=G.length+1) (by omega) (Qd (j:=G.length) (by omega) (Qa zz _) _) _) _
        ·rw[z6];exact Qd (j:=G.length+1) (by omega) (Qj (z0A _) _) _
        ·rw[z6];exact Qj (Qd (j:=G.length) (by omega) (z1A _) _) _
        ·rw[zB (by omega),zB (by omega),zB (by omega),zF (by omega)];exact zk i hi
        ·exact Qd (j:=G.length+2) (by omega) (Qd (j:=G.length+1) (by omega) (Qd (j:=G.length) (by omega) (Qa (zv i cs hi hc) _) _) _) _
       |false=>
        rw[if_neg (by rw[show Kz x.1 c.1=false from hbf];simp)]at z6;repeat first|(refine r_ ?_;simp)|refine q_ ?_
        refine Qk rfl ?_;repeat first|(refine r_ ?_;simp)|refine q_ ?_
        refine⟨Qa zz _,rfl,⟨?_,?_,?_,fun i hi=> ?_⟩,fun i cs hi hc=> ?_⟩
        ·rw[fl];exact Qj (Qa zz _) _
        ·rw[z6,P2];exact z0A _
        ·rw[z6];exact z1A _
        ·rw[zB (by omega),zF (by omega)];exact zk i hi
        ·exact Qd (j:=G.length+2) (by omega) (Qa (zv i cs hi hc) _) _
     ·have zh:((kd:Int)==(e:Int))=false:=by simp;omega
      rw[if_neg (by simpa using hkd)]at z6;cases b with
      |none=>
       simp at z1A z1H;repeat first|(refine r_ ?_;simp[zDA,z8,zh,z1A,z1H,z0A,z0H])|refine q_ ?_
       refine Q6 rfl rfl ?_;simp;repeat first|(refine r_ ?_;simp)|refine q_ ?_
       refine Qk rfl ?_;repeat first|(refine r_ ?_;simp)|refine q_ ?_
       refine⟨Qa zz _,rfl,⟨?_,?_,?_,fun i hi=> ?_⟩,fun i cs hi hc=> ?_⟩
       ·rw[fl];exact Qj (Qa zz _) _
       ·rw[z6,P2];exact z0A _
       ·rw[z6];exact z1A _
       ·rw[zB (by omega),zF (by omega)];exact zk i hi
       ·exact Qd (j:=G.length+2) (by omega) (Qa (zv i cs hi hc) _) _
      |some c=>
       simp at z1A z1H;repeat first|(refine r_ ?_;simp[zDA,z8,zh,z1A,z1H,z0A,z0H])|refine q_ ?_
       refine Q6 rfl rfl ?_;simp;repeat first|(refine r_ ?_;simp)|refine q_ ?_
       refine Qk rfl ?_;repeat first|(refine r_ ?_;simp)|refine q_ ?_
       refine⟨Qa zz _,rfl,⟨?_,?_,?_,fun i hi=> ?_⟩,fun i cs hi hc=> ?_⟩
       ·rw[fl];exact Qj (Qa zz _) _
       ·rw[z6,P2];exact z0A _
       ·rw[z6];exact z1A _
       ·rw[zB (by omega),zF (by omega)];exact zk i hi
       ·exact Qd (j:=G.length+2) (by omega) (Qa (zv i cs hi hc) _) _
   ·rintro _ H' (⟨h2,h3,h5,h4⟩|⟨c,hc⟩)
    ·rw[z7]at h3;exact⟨⟨_,_,_,_,h2.trans fl⟩,h3,h4⟩
    ·exact hc.elim
  ·rintro _ H' ⟨⟨sl',zd,a',b',h2⟩,h3,h4⟩;refine⟨true,none,71,sl',zd,a',b',by simpa using h2,?_⟩;simp;have zi:inS a (d1m best).1∧inS a (d1m best).2:=by
    cases best with
    |none=>exact⟨⟨xH _,by show(0:Int)<_;omega⟩,⟨xH _,by show(0:Int)<_;omega⟩⟩
    |some x=>exact X5 ha ha (j13 z7)
   rw[z7]at za;rw[P2]at h3;have z0:=Qd (j:=G.length+2) (by omega) h3 .dead;have zk:∀i,i<G.length→(H'.set (G.length+2) .dead)[i]? =G[i]? :=fun i hi=>by rw[zB (by omega)];exact h4 i hi
   have hlen:G.length<(H'.set (G.length+2) .dead).length:=by have:=Qh z0;omega
   generalize H'.set (G.length+2) .dead=Z at *;generalize d1l best=y at *;generalize d1m best=s' at *
   have zc:SL K Z q' 53 2 (w.map encSy):=⟨(zk _ (Qh hs.arr)).trans hs.arr,hs.ge,fun j hj=>(zk j (by have:=Qh hs.arr;have:=hs.ge;omega)).trans (hs.keep j hj)⟩
   have zD:=(zk _ (Qh gD)).trans gD;have zj:(w.map encSy).length=w.length:=by simp
   have zw:q'≠D:=fun e=>by have:=hs.arr;rw[e,gD]at this;simp at this
   have zx:q'≠G.length:=by have:=Qh hs.arr;omega
   have y8:D<G.length:=Qh gD;have zy:W=(w++[y])++Ub a near e s':=by rw[za];simp
   generalize ze:w.map encSy=acc at *
   repeat first|(refine r_ ?_;simp[z0])|refine q_ ?_
   refine Qe tOk rfl rfl T45 rfl T53 rfl (by decide) (by decide) rfl rfl rfl ?_;simp[Qa zc.arr,Qi zc.arr,zj];refine⟨by simp[Wa,Qa zc.arr,Qi zc.arr,zj]<;>omega,?_⟩;have y0:=zc.put [AObj.arr 53 2 [.agg [.i y.ty,.i y.num]]] (acc++[.agg [.i y.ty,.i y.num]]) rfl;have z0A:∀L,(Z.set q' .dead++L)[G.length]? =some (.vars [.i y.ty,.i y.num,.i s'.1,.i s'.2]):=fun L=>Qa (Qd zx z0 _) L;have zDA:∀L,(Z.set q' .dead++L)[D]? =some (.vars [.i ((e:Int)+1)]):=fun L=>Qa (Qd zw zD _) L;repeat first|(refine r_ ?_;simp)|refine q_ ?_
   refine Qn tOk mixed [] (.val 0 (.val 1 (.val 2 (.val 3 (.val 4 (.val 5 (.done))))))) rfl (by kernel_rfl) ?_;simp[z0A];repeat first|(refine r_ ?_;simp[zDA,hw,z8])|refine q_ ?_
   refine Qc (sl':=[(2,.i s'.1),(3,.i s'.2),(4,.vptr H.length 0),(5,.vptr (H.length+1) 0),(8,.nils),(9,.sl (Z.length+1) 2 0 (w++[y]).length),(10,.vptr (Z.length+2) 0)]) ?_ (by simp);have y1:=y0.add [.vars [.i e]];have y9:=zc.le;refine ih (e,w++[y],s',Z.length+1,Z.length+2,_) ⟨by simp;omega,zy,zi.1,zi.2,?_,?_,by simp only;omega⟩ (by simp only;omega)
   ·rw[show(w++[y]).map encSy=acc++[.agg [.i y.ty,.i y.num]] by rw[←ze];simp];simpa using y1
   ·simp only;rw[zH (by simp)];simp
 ·obtain rfl:e=0:=by simp at zp;omega
  rw[x01,xD]at za;subst za;have y2:=hs.ge;refine Qs (sl':=[(8,.nils),(9,.sl q' 2 0 W.length)]) ?_ (by simp);refine Wh q' hs.arr ?_;simp[AV.fz];rw[zO (by simp)];repeat first|(refine r_ ?_;simp)|refine q_ ?_
  refine fun i hi=> ?_;rw[zB (by omega)];exact gk i hi
end Go.Abs
namespace Go.Abs
open Go Go.Proofs Go.Maps Go.RowKit
theorem g0w(H:List AObj)(q:Nat)(l:List Int)(g:Nat)(cs:List AV)(f:Int→Bool)(hq:H[q]? =some (.arr 3 1 (l.map AV.i)))(n:Nat)(hn:l.length=n)(hl:l.length≤1000000000)(hg:∀z∈l,FC Tryz.prog g ([]++[.i z]++cs) H (fun r H'=>r= .bool (f z)∧H'=H)):
  FC Tryz.prog 119 [.sl q 1 0 n,.fn (.func g) [] cs] H (fun r H'=>r= .i (Db f l)∧H'=H):=by
 subst hn;refine Ea tOk Tryz.func119 rfl Tryz.results119 rfl (by simp[Tryz.ntmps119]) ?_;rw[Tryz.ntmps119];simp only[Qg];repeat first|(refine r_ ?_;simp)|refine q_ ?_
 refine Qp (Qc (sl':=[(0,.sl q 1 0 l.length),(1,.fn (.func g) [] cs),(7,.i l.length),(8,.i 0)]) ?_ (by simp));refine Qo (F:=fun(j:Nat)=>⟨[(0,.sl q 1 0 l.length),(1,.fn (.func g) [] cs),(7,.i l.length),(8,.i j)],H⟩)
  (fun j=>j≤l.length∧∀i,∀hi:i<l.length,i<j→f l[i]=false) (fun j=>l.length - j) ?_ 0 ⟨by simp,by simp⟩
 rintro j ⟨hj,hI⟩ ih;repeat first|(refine r_ ?_;simp)|refine q_ ?_
 refine Qb rfl (fun z7=> ?_) (fun z8=> ?_)
 ·have z1:j<l.length:=by simpa using z7
  have hw:IntKind.i64.wrap ((j:Int)+1)=j+1:=wrap_i64 _ (by omega) (by omega);have za:(l.map AV.i)[j]? =some (.i l[j]):=by simp[z1]
  have zb:∀hh,(l.map AV.i)[j]'hh= .i l[j]:=fun hh=>by simp
  repeat first|(refine r_ ?_;simp[z1,hq,za,zb])|refine q_ ?_
  refine Q9 rfl rfl (hg _ (zK z1)) rfl ?_;rintro r H' ⟨rfl,rfl⟩;simp;repeat first|(refine r_ ?_;simp)|refine q_ ?_
  refine Qb rfl (fun h=> ?_) (fun h=> ?_)
  ·repeat first|(refine r_ ?_;simp)|refine q_ ?_
   rw[Uw z1 h hI]
  ·repeat first|(refine r_ ?_;simp[hw])|refine q_ ?_
   refine Qc (sl':=[(0,.sl q 1 0 l.length),(1,.fn (.func g) [] cs),(7,.i l.length),(8,.i (j+1:Nat))]) (ih (j+1) ⟨by omega,fun i hi zc=> ?_⟩ (by omega)) (by simp);by_cases e:i=j
   ·subst e;exact h
   ·exact hI i hi (by omega)
 ·have z6:j=l.length:=by simp at z8;omega
  subst z6;repeat first|(refine r_ ?_;simp)|refine q_ ?_
  rw[Tt hI]
attribute [local irreducible] Wk Ev Yj Ws Rs lkN Ts O4
theorem j1j(a:Aut)(i k:Nat):eqS a i k=(lkN (Ts a) ((i:Int),(k:Int))).isNone:=rfl
theorem M7(a:Aut)(ha:OkA a)(H:List AObj)(N M I:Nat)(i k:Nat)(hN:H[N]? =some (.vars [.mref M]))(hM:H[M]? =some (mpN (Ts a)))(hI:H[I]? =some (.vars [.i i]))(hb:NB a (Ts a))(hi:i<a.fin.length)(hk:k<a.fin.length):
  FC Tryz.prog 144 [.i k,.vptr N 0,.vptr I 0] H (fun r H'=>r= .bool (eqS a i k)∧H'=H):=by
 refine Ea tOk Tryz.func144 rfl Tryz.results144 rfl (by simp[Tryz.ntmps144]) ?_;rw[Tryz.ntmps144];simp only[Qg];rw[j1j];repeat first|(refine r_ ?_;simp[hN,hI])|refine q_ ?_
 refine Ym rfl rfl rfl rfl (s:=((i:Int),(k:Int))) rfl (near:=Ts a) hM hb.nk (D4 ha ha ⟨Ye hi,Ye hk⟩) ?_;simp;repeat first|(refine r_ ?_;simp)|refine q_ ?_
theorem j1i(E:Nat→Bool)(l:List Nat):Db (fun z:Int=>E z.toNat) (Ed l)=match l.findIdx? E with|some t=>(t:Int)|none=> -1:=by
 have:(Ed l).findIdx? (fun z:Int=>E z.toNat)=l.findIdx? E:=by
  unfold Ed;rw[tg]
  congr 1
 show(match (Ed l).findIdx? (fun z:Int=>E z.toNat)with|some i=>(i:Int)|none=> -1)=_;rw[this]
attribute [local irreducible] eqS
theorem Jq(a:Aut)(ha:Dfa a):PC Tryz.prog 85 [R3 a] (fun r=>r=LI (Ed (clA a))):=by
 refine Ql tOk Tryz.func85 rfl Tryz.results85 rfl (by simp[Tryz.ntmps85]) ?_;rw[Tryz.ntmps85];simp only[Qg];simp only[R3,We];have zq:=ha.ok.fin;repeat first|(refine r_ ?_;simp)|refine q_ ?_
 refine Q9 rfl rfl (Dw a ha.ok _) rfl ?_;rintro _ Y ⟨M,rfl,zz,zb,zr,hk⟩;simp;have y0:Y[0]? =some (.vars (We a)):=hk 0 (by simp);clear hk;have y1:=Qh zb;have y2:=Qh y0;have y0A:∀L,(Y++L)[0]? =some (.vars [.i a.types,.list (a.fin.map .bool),.list (a.mv.map encMv),.list (Yj a)]):=fun L=>Qa y0 L;have y0H:∀L hh,(Y++L)[0]'hh= .vars [.i a.types,.list (a.fin.map .bool),.list (a.mv.map encMv),.list (Yj a)]:=fun L hh=>(zY hh).2 (y0A L);repeat first|(refine r_ ?_;simp[y0A,y0H])|refine q_ ?_
 refine Qs (sl':=[(1,.vptr 0 0),(2,.nils),(3,.vptr Y.length 0),(4,.nils),(5,.nils),(13,.i a.fin.length),(14,.i (0:Nat))]) ?_ (by simp);refine Q3 4 3 1 rfl ?_;simp;refine Q3 5 3 1 rfl ?_;simp;refine Q4 fun Z hZ=> ?_;have zM:Z[M]? =some (mpN (Ts a)):=by rw[hZ];exact Qa zb _
 have zN:Z[Y.length]? =some (.vars [.mref M]):=by rw[hZ,zH (by omega)];simp
 have zo:Z[Y.length+1]? =some (.arr 3 1 []):=by rw[hZ,zH (by omega)];simp
 have zf:Z[Y.length+2]? =some (.arr 3 1 []):=by rw[hZ,zH (by omega)];simp
 clear hZ y0A y0H y0;generalize Y.length=N at *;clear zb;clear Y
 have zc:O4 (eqS a) 0=([],[]):=by unfold O4;rfl
 have zd:clA a=(O4 (eqS a) a.fin.length).2:=rfl;rw[zd];refine Qp (Qc (sl':=[(1,.vptr 0 0),(2,.nils),(3,.vptr N 0),(4,.sl (N+1) 1 0 (O4 (eqS a) 0).2.length),(5,.sl (N+2) 1 0 (O4 (eqS a) 0).1.length),(13,.i a.fin.length),(14,.i (0:Nat))]) ?_ (by simp[zc]));refine Qo (P:=Tryz.prog) (F:=fun(u:Nat×Nat×Nat×List AObj)=>⟨[(1,.vptr 0 0),(2,.nils),(3,.vptr N 0),(4,.sl u.2.1 1 0 (O4 (eqS a) u.1).2.length),(5,.sl u.2.2.1 1 0 (O4 (eqS a) u.1).1.length),(13,.i a.fin.length),(14,.i u.1)],u.2.2.2⟩)
  (fun u=>u.1≤a.fin.length∧u.2.2.2[M]? =some (mpN (Ts a))∧u.2.2.2[N]? =some (.vars [.mref M])∧u.2.2.2[u.2.1]? =some (.arr 3 1 ((Ed (O4 (eqS a) u.1).2).map AV.i))∧u.2.2.2[u.2.2.1]? =some (.arr 3 1 ((Ed (O4 (eqS a) u.1).1).map AV.i))∧u.2.1≠u.2.2.1) (fun u=>a.fin.length - u.1) ?_ (0,N+1,N+2,Z) ⟨wn _,zM,zN,by rw[zc];exact zo,by rw[zc];exact zf,by simp⟩
 clear zM zN zo zf;clear Z;rintro⟨i,qo,q9,G⟩ ⟨hi,gM,gN,go,gf,ze⟩ ih;simp only at hi gM gN go gf ze ih ⊢;have z7:=Ga (v0k ha) i hi;have zg:=z7.len;have zh:(O4 (eqS a) i).1.length≤i:=by have zt:(O4 (eqS a) i).1.Nodup:=z7.asc.imp fun h=>tI h;have:=Yh _ (yJ i) zt fun x hx=>yW.2 (z7.lt x hx);simpa using this
 have z8:=z7.lt;repeat first|(refine r_ ?_;simp)|refine q_ ?_
 refine Qb rfl (fun zu=> ?_) (fun zv=> ?_)
 ·have zi:i<a.fin.length:=by simpa using zu
  have hw:IntKind.i64.wrap ((i:Int)+1)=i+1:=wrap_i64 _ (by omega) (by omega);have zm:=Gw (eqS a) i;have z1:=fun q' q2 H'=>ih (i+1,q',q2,H');simp only[zm]at z1;unfold Hy at z1;generalize O4 (eqS a) i=st at *
  obtain⟨fs,out⟩:=st;simp only at z1 zg zh z8 go gf;clear z7 zm;repeat first|(refine r_ ?_;simp)|refine q_ ?_
  have y3:=Qh gN;have y4:=Qh go;have y5:=Qh gf;refine Q9 rfl rfl (g0w (G++[AObj.vars [AV.i (i:Int)]]) q9 (Ed fs) 144 [.vptr N 0,.vptr G.length 0] (fun z=>eqS a i z.toNat) (Qa gf _) fs.length (by simp) (by simp;omega) (fun z hz=>by
   obtain⟨k,hk,rfl⟩:=zR.1 hz;have y6:=z8 k hk;exact M7 a ha.ok _ N M G.length i k (Qa gN _) (Qa gM _) (by simp) zr zi (by omega))) rfl ?_
  rintro _ _ ⟨rfl,rfl⟩;rw[j1i];simp;have kI:(G++[AObj.vars [AV.i (i:Int)]])[G.length]? =some (.vars [.i i]):=by simp
  have kM:(G++[AObj.vars [AV.i (i:Int)]])[M]? =some (mpN (Ts a)):=Qa gM _;have kN:(G++[AObj.vars [AV.i (i:Int)]])[N]? =some (.vars [.mref M]):=Qa gN _;have ko:(G++[AObj.vars [AV.i (i:Int)]])[qo]? =some (.arr 3 1 ((Ed out).map AV.i)):=Qa go _;have kf:(G++[AObj.vars [AV.i (i:Int)]])[q9]? =some (.arr 3 1 ((Ed fs).map AV.i)):=Qa gf _;generalize G.length=I at *;generalize G++[AObj.vars [AV.i (i:Int)]]=Y at *
  have z6:((Ed out).map AV.i).length=out.length:=by simp
  have za:((Ed fs).map AV.i).length=fs.length:=by simp
  have zn:qo≠M:=fun e=>by rw[e,kM]at ko;simp[mpN]at ko
  have zp:qo≠N:=fun e=>by rw[e,kN]at ko;simp at ko
  have zw:q9≠M:=fun e=>by rw[e,kM]at kf;simp[mpN]at kf
  have zx:q9≠N:=fun e=>by rw[e,kN]at kf;simp at kf
  have y7:q9≠I:=fun e=>by rw[e,kI]at kf;simp at kf
  have mo:∀c:Nat,(Ed (out++[c])).map AV.i=(Ed out).map AV.i++[.i c]:=fun c=>by simp
  have mf:∀c:Nat,(Ed (fs++[c])).map AV.i=(Ed fs).map AV.i++[.i c]:=fun c=>by simp
  cases hix:fs.findIdx? (eqS a i)with
  |some t=>
   rw[hix]at z1;simp only[mo]at z1;generalize (Ed out).map AV.i=ao at *
   repeat first|(refine r_ ?_;simp)|refine q_ ?_
   refine Qb rfl (fun h=>by first|(simp at h;done)|(simp at h;omega)) (fun _=> ?_);repeat first|(refine r_ ?_;simp)|refine q_ ?_
   refine Qe tOk rfl rfl T40 rfl T3 rfl (by decide) (by decide) rfl rfl rfl ?_;simp[Qa ko,Qi ko,z6];refine⟨by simp[Wa,Qa ko,Qi ko,z6]<;>omega,?_⟩;repeat first|(refine r_ ?_;simp[hw])|refine q_ ?_
   refine Qc (sl':=[(1,.vptr 0 0),(2,.nils),(3,.vptr N 0),(4,.sl (Y.length+1) 1 0 (out++[t]).length),(5,.sl q9 1 0 fs.length),(13,.i a.fin.length),(14,.i (i+1:Nat))]) ?_ (by simp);refine z1 (Y.length+1) q9 _ ⟨by omega,Qa (Qd zn kM _) _,Qa (Qd zp kN _) _,?_,Qa (Qd ze kf _) _,by have:=Qh kf;omega⟩ (by omega);rw[zH (by simp)];simp
  |none=>
   rw[hix]at z1;simp only[mo,mf]at z1;generalize (Ed out).map AV.i=ao at *;generalize (Ed fs).map AV.i=af at *
   repeat first|(refine r_ ?_;simp)|refine q_ ?_
   refine Qb rfl (fun _=> ?_) (fun h=>by first|(simp at h;done)|(simp at h;omega));repeat first|(refine r_ ?_;simp[kI])|refine q_ ?_
   refine Qe tOk rfl rfl T40 rfl T3 rfl (by decide) (by decide) rfl rfl rfl ?_;simp[Qa kf,Qi kf,za];refine⟨by simp[Wa,Qa kf,Qi kf,za]<;>omega,?_⟩;refine Q4 fun Z hZ=> ?_;have zM:Z[M]? =some (mpN (Ts a)):=by rw[hZ];exact Qa (Qd zw kM _) _
   have zN:Z[N]? =some (.vars [.mref M]):=by rw[hZ];exact Qa (Qd zx kN _) _
   have zo:Z[qo]? =some (.arr 3 1 ao):=by rw[hZ];exact Qa (Qd (Ne.symm ze) ko _) _
   have zf:Z[Y.length+1]? =some (.arr 3 1 (af++[.i i])):=by rw[hZ,zH (by simp)];simp
   have zj:qo≠Y.length+1:=by have:=Qh ko;omega
   clear hZ;generalize Y.length+1=qf2 at *
   repeat first|(refine r_ ?_;simp)|refine q_ ?_
   refine Qe tOk rfl rfl T40 rfl T3 rfl (by decide) (by decide) rfl rfl rfl ?_;simp[Qa zo,Qi zo,z6];refine⟨by simp[Wa,Qa zo,Qi zo,z6]<;>omega,?_⟩;repeat first|(refine r_ ?_;simp[hw])|refine q_ ?_
   refine Qc (sl':=[(1,.vptr 0 0),(2,.nils),(3,.vptr N 0),(4,.sl (Z.length+1) 1 0 (out++[fs.length]).length),(5,.sl qf2 1 0 (fs++[i]).length),(13,.i a.fin.length),(14,.i (i+1:Nat))]) ?_ (by simp);refine z1 (Z.length+1) qf2 _ ⟨by omega,Qa (Qd zn zM _) _,Qa (Qd zp zN _) _,?_,Qa (Qd zj zf _) _,by have:=Qh zf;omega⟩ (by omega);rw[zH (by simp)];simp
 ·have zk:i=a.fin.length:=by simp at zv;omega
  subst zk;have zy:((Ed (O4 (eqS a) a.fin.length).2).map AV.i).length=(O4 (eqS a) a.fin.length).2.length:=by simp
  generalize zl:(Ed (O4 (eqS a) a.fin.length).2).map AV.i=acc at *
  repeat first|(refine r_ ?_;simp[go,zy])|refine q_ ?_
  rw[zO (by omega),←zl];simp
end Go.Abs
namespace Go.Abs
open Go Go.Proofs Go.Maps Go.RowKit
@[simp] theorem encMac_pure (a:Aut):(R3 a).pure=true:=by simp[R3,We,Yj,Yi,AV.pure]
attribute [local irreducible] A1 Pb Wk Ev Yj Ws Rs lkN Ts O4 clA Ub
theorem C3(a:Aut):PC Tryz.prog 28 [encA a] (fun r=>r= .tup [LI (u1q a).1,.i (u1q a).2]):=by
 refine Ql tOk Tryz.func28 rfl Tryz.results28 rfl (by simp[Tryz.ntmps28]) ?_;rw[Tryz.ntmps28];simp only[Qg];simp only[encA];obtain⟨R,hR⟩:∃R,u1q a=R:=⟨_,rfl⟩
 rw[hR];unfold u1q at hR;repeat first|(refine r_ ?_;simp)|refine q_ ?_
 refine Qf rfl rfl (by simp) (w0c a) rfl ?_;rintro _ rfl;simp;repeat first|(refine r_ ?_;simp)|refine q_ ?_
 refine Qb rfl (fun h=> ?_) (fun h=> ?_)
 ·rw[if_pos (by simpa using h)]at hR;rw[←hR];repeat first|(refine r_ ?_;simp)|refine q_ ?_
 have h0:A1 a=0:=by simpa using h
 have ha:=(w0r a).1 h0;rw[if_neg (fun k=>k h0)]at hR;rw[←hR];repeat first|(refine r_ ?_;simp)|refine q_ ?_
 refine Qf rfl rfl (by simp) (U0 a ha.ok) rfl ?_;rintro _ rfl;simp;refine Qf rfl rfl (by simp) (Jq a ha) rfl ?_;rintro _ rfl;simp;repeat first|(refine r_ ?_;simp)|refine q_ ?_
theorem w18(a:Aut)(p:Int):(decide (0≤p) && decide (p<a.fin.length))=decide (inS a p):=by rw[xU,decide_eq_true_eq,Bool.and_eq_true,decide_eq_true_eq,decide_eq_true_eq];exact Iff.rfl
theorem Ou(a:Aut)(i:Int){b:Bool}(hb:decide (inS a i)=b):PC Tryz.prog 88 [encA a,.i i] (fun r=>r= .bool b):=by have:=c07 a i;rw[w18,hb]at this;exact this
theorem Iy(a:Aut)(p q:Int):PC Tryz.prog 30 [encA a,.i p,.i q] (fun r=>r=j17 (u1d a p q)):=by
 refine Ql tOk Tryz.func30 rfl Tryz.results30 rfl (by simp[Tryz.ntmps30]) ?_;rw[Tryz.ntmps30];simp only[Qg];simp only[encA];obtain⟨R,hR⟩:∃R,u1d a p q=R:=⟨_,rfl⟩
 rw[hR];unfold u1d at hR;repeat first|(refine r_ ?_;simp)|refine q_ ?_
 refine Qf rfl rfl (by simp) (w0c a) rfl ?_;rintro _ rfl;simp;repeat first|(refine r_ ?_;simp)|refine q_ ?_
 refine Qb rfl (fun h=> ?_) (fun h=> ?_)
 ·rw[if_pos (by simpa using h)]at hR;rw[←hR];repeat first|(refine r_ ?_;simp)|refine q_ ?_
  rfl
 have h0:A1 a=0:=by simpa using h
 have ha:=(w0r a).1 h0;rw[if_neg (fun k=>k h0)]at hR;repeat first|(refine r_ ?_;simp)|refine q_ ?_
 by_cases hp:inS a p
 ·have e1:decide (inS a p)=true:=by simpa using hp
  refine Qf rfl rfl (by simp) (Ou a p e1) rfl ?_;rintro _ rfl;simp;by_cases hq:inS a q
  ·rw[if_pos ⟨hp,hq⟩]at hR;have e2:decide (inS a q)=true:=by simpa using hq
   refine Qf rfl rfl (by simp) (Ou a q e2) rfl ?_;rintro _ rfl;simp;refine Qk rfl ?_;repeat first|(refine r_ ?_;simp)|refine q_ ?_
   refine Qf rfl rfl (by simp) (U0 a ha.ok) rfl ?_;rintro _ rfl;simp[R3,We];repeat first|(refine r_ ?_;simp)|refine q_ ?_
   have z1:=q0o ha hp hq;rw[z1]at hR;refine Q9 rfl rfl (Dw a ha.ok _) rfl ?_;rintro _ Y ⟨M,rfl,za,z6,z7,hk⟩;have z8:=k1u a ha.ok Y M (Ts a) z6 z7 p q hp hq;have y2:Y[1]? =some (.vars (We a)):=hk 1 (by simp);simp only[We]at y2;clear hk z1;simp;repeat first|(refine r_ ?_;simp)|refine q_ ?_
   refine Ym rfl rfl rfl rfl (s:=(p,q)) rfl (near:=Ts a) z6 z7.nk (D4 ha.ok ha.ok ⟨hp,hq⟩) ?_;simp;cases hlk:lkN (Ts a) (p,q)with
   |none=>
    rw[hlk]at hR;rw[←hR];repeat first|(refine r_ ?_;simp)|refine q_ ?_
    refine Qk rfl ?_;repeat first|(refine r_ ?_;simp)|refine q_ ?_
    rfl
   |some d=>
    rw[hlk]at hR z8;rw[←hR];repeat first|(refine r_ ?_;simp)|refine q_ ?_
    refine Qk rfl ?_;repeat first|(refine r_ ?_;simp[y2])|refine q_ ?_
    refine Q9 rfl rfl z8 rfl ?_;rintro _ X ⟨rfl,_⟩;simp;repeat first|(refine r_ ?_;simp)|refine q_ ?_
    rfl
  ·rw[if_neg (fun k=>hq k.2)]at hR;rw[←hR];have e2:decide (inS a q)=false:=by simpa using hq
   refine Qf rfl rfl (by simp) (Ou a q e2) rfl ?_;rintro _ rfl;simp;refine Qk rfl ?_;repeat first|(refine r_ ?_;simp)|refine q_ ?_
   rfl
 ·rw[if_neg (fun k=>hp k.1)]at hR;rw[←hR];have e1:decide (inS a p)=false:=by simpa using hp
  refine Qf rfl rfl (by simp) (Ou a p e1) rfl ?_;rintro _ rfl;simp;refine Q6 rfl rfl ?_;simp;refine Qk rfl ?_;repeat first|(refine r_ ?_;simp)|refine q_ ?_
  rfl
end Go.Abs
namespace Go.Abs
open Go Go.Proofs Go.Maps Go.RowKit
theorem c0k{a b:List Int}{j:Nat}(h1:j<a.length)(h2:j<b.length)(h:a.take j=b.take j)(e:a[j]=b[j]):a.take (j+1)=b.take (j+1):=by rw[zP h1,zP h2,h,e]
theorem d02(a b:List Int):PC Tryz.prog 32 [LI a,LI b] (fun r=>r= .bool (decide (a=b))):=by
 refine Ql tOk Tryz.func32 rfl Tryz.results32 rfl (by simp[Tryz.ntmps32]) ?_;rw[Tryz.ntmps32];simp only[Qg];refine Ry 0 rfl (fun hlen=> ?_);rw[zZ]at hlen;repeat first|(refine r_ ?_;simp)|refine q_ ?_
 refine Qb rfl (fun h=> ?_) (fun h1=> ?_)
 ·repeat first|(refine r_ ?_;simp)|refine q_ ?_
  rintro rfl;simp at h
 have hl:a.length=b.length:=by simp at h1;omega
 repeat first|(refine r_ ?_;simp)|refine q_ ?_
 refine Qr a.length (fun j=>a.take j=b.take j) (fun j=>[(0,LI a),(1,LI b),(12,.i a.length),(13,.i j)]) (fun _=>[]) rfl (by simp) (by simp) (by simp) (by simp) (by simp) ?_;intro j hj hI ih;repeat first|(refine r_ ?_;simp)|refine q_ ?_
 refine Qb rfl (fun z8=> ?_) (fun za=> ?_)
 ·have z1:j<a.length:=by simpa using z8
  have z6:j<b.length:=by omega
  repeat first|(refine r_ ?_;simp)|refine q_ ?_
  refine Qn tOk mixed [] (.val 0 (.val 1 (.val 2 (.val 3 (.val 4 (.val 5 (.val 6 (.val 7 (.val 8 (.done)))))))))) rfl (by kernel_rfl) ?_;simp[z1,z6];refine Qb rfl (fun h=> ?_) (fun h=> ?_)
  ·repeat first|(refine r_ ?_;simp)|refine q_ ?_
   rintro rfl;simp at h
  ·repeat first|(refine r_ ?_;simp)|refine q_ ?_
   have he:a[j]=b[j]:=by simpa using h
   refine Qq _ (ih z1 (c0k z1 z6 hI he)) rfl (by simp) ?_ (by simp) (by simp);simp;exact wrap_i64 _ (by omega) (by omega)
 ·have z7:j=a.length:=by simp at za;omega
  subst z7;repeat first|(refine r_ ?_;simp)|refine q_ ?_
  rw[zO (zQ _),zO (by omega)]at hI;exact hI
attribute [local irreducible] z2t w12 k17
end Go.Abs
namespace Go.Abs
open Go Go.Proofs Go.Maps Go.RowKit
theorem Ah(lo hi:Int):PC Tryz.prog 79 [.i lo,.i hi] (fun r=>r=encP (J9 lo hi)):=by
 refine Ql tOk Tryz.func79 rfl Tryz.results79 rfl (by simp[Tryz.ntmps79]) ?_;rw[Tryz.ntmps79];simp only[Qg];refine Ps (Ot tOk rfl ?_);simp;refine Ps (Ot tOk rfl ?_);simp;refine Yd 1 (e:=187) (c:=2) (xs:=[encIv ⟨lo,hi⟩]) rfl 2 (o0:= .va 171 1 [.sl 1 2 0 1]) rfl (by decide) rfl ?_;simp[AObj.fz,AV.fz];refine Ue 2 rfl (by simp[AV.cells,AV.pure]) ?_;simp;refine Q1 2 (e:=171) (c:=1) (xs:=[encL [⟨lo,hi⟩]]) rfl 0 rfl ?_;simp;repeat first|(refine r_ ?_;simp)|refine q_ ?_
 rfl
def exM(b:Bool):Aut:=⟨1,[false,true,b],[⟨0,1,J9 (-1099511627776) 4⟩,⟨0,2,J9 5 1099511627776⟩,⟨1,2,J9 (-1099511627776) 1099511627776⟩,⟨2,1,J9 (-1099511627776) 1099511627776⟩]⟩
def v05:Aut:=⟨1,[false,true],[⟨0,1,J9 (-1099511627776) 1099511627776⟩,⟨1,1,J9 (-1099511627776) 1099511627776⟩]⟩
theorem z2s(b:Bool):A1 (exM b)=0:=by cases b<;>decide+kernel
theorem x2y:clA (exM true)=[0,1,1]:=by decide+kernel
theorem x1o:Ww (exM true)=v05:=by kernel_rfl
theorem y27:(Pb (exM true) (exM true) 0 1).1=some []:=by kernel_rfl
theorem y29:(Pb (exM false) (exM false) 0 2).1=some [⟨0,5⟩]:=by kernel_rfl
theorem x2w:Su v05=false:=by decide+kernel
theorem j1b:Es (exM true) (Wl (exM true))=[]:=List.isEmpty_iff.1 (by decide+kernel)
theorem c1a:Pg (exM true)=(0,exM true):=by rw[Pg,j1b];rfl
def xC:List Prd:=[[[⟨-1099511627776,4⟩]],[[⟨5,1099511627776⟩]]]
def xQ:List (List Int):=[[0],[1],[2]]
theorem g0y:(Nv (exM true).types (onA (exM true))).1=0∧(Nv (exM true).types (onA (exM true))).2=xC:=by decide+kernel
theorem y2w:Rk (exM true).types (onA (exM true))=(0,xC):=by rw[←Ml];exact uv g0y.1 g0y.2
theorem j0d:Kq (exM true) xC=some xQ:=by decide+kernel
theorem z2x:Wq (exM true)=0:=by decide+kernel
theorem w2m:Ud (exM true)=(0,xC,xQ):=by
 rw[Ud,if_neg (fun k=>k z2x),y2w];rw[if_neg (by simp)];split
 ·rename_i h;have h2:Kq (exM true) xC=none:=h;rw[j0d]at h2;cases h2
 ·rename_i Q h;have h2:Kq (exM true) xC=some Q:=h;rw[j0d]at h2;rw[←Option.some.inj h2]
theorem g1g:Yq (exM true) xC xQ=exM true:=by kernel_rfl
theorem c1v:Ch (exM true)=false:=by decide+kernel
theorem q2h:Rt (exM true)=(0,exM true):=by rw[Rt,w2m,if_neg (by simp)];show Zc (Yq (exM true) xC xQ)=_;rw[g1g,w0v,c1v];rfl
theorem c1f:Ls (exM true)=(0,v05):=by rw[Ls,q2h,if_neg (by simp)];simp only[c1a];rw[if_neg (by simp),x1o,x2w];rfl
theorem c1s:u1q (exM true)=([0,1,1],0):=by rw[u1q,if_neg (fun k=>k (z2s true)),x2y];rfl
theorem y1f(b:Bool)(i:Int)(h:0≤i∧i<3):inS (exM b) i:=⟨h.1,by simpa[exM]using h.2⟩
theorem y2n:u1d (exM true) 0 1=(some [],0):=by rw[u1d,if_neg (fun k=>k (z2s true)),if_pos ⟨y1f _ _ (by decide),y1f _ _ (by decide)⟩,y27]
theorem y23:u1d (exM false) 0 2=(some [⟨0,5⟩],0):=by rw[u1d,if_neg (fun k=>k (z2s false)),if_pos ⟨y1f _ _ (by decide),y1f _ _ (by decide)⟩,y29]
theorem Us(b:Bool):PC Tryz.prog 78 [.bool b] (fun r=>r=encA (exM b)):=by
 refine Ql tOk Tryz.func78 rfl Tryz.results78 rfl (by simp[Tryz.ntmps78]) ?_;rw[Tryz.ntmps78];simp only[Qg];have z1:yJ 3=[0,1,2]:=rfl;have z6:yJ 4=[0,1,2,3]:=rfl;repeat first|(refine r_ ?_;simp[z1,z6])|refine q_ ?_
 refine Qf rfl rfl (by simp) (Ah (-1099511627776) 4) rfl ?_;rintro _ rfl;simp[z1,z6];refine Qf rfl rfl (by simp) (Ah 5 1099511627776) rfl ?_;rintro _ rfl;simp[z1,z6];refine Qf rfl rfl (by simp) (Ah (-1099511627776) 1099511627776) rfl ?_;rintro _ rfl;simp[z1,z6];refine Qf rfl rfl (by simp) (Ah (-1099511627776) 1099511627776) rfl ?_;rintro _ rfl;simp[z1,z6];repeat first|(refine r_ ?_;simp[z1,z6])|refine q_ ?_
 exact⟨rfl,rfl,rfl⟩
end Go.Abs
namespace Go.Abs
open Go Go.Proofs Go.Maps Go.RowKit
theorem q2b(a b a' b':Int):eqA T 9 53 (.agg [.int .i64 a,.int .i64 b]) (.agg [.int .i64 a',.int .i64 b'])=some (a==a' && b==b'):=by simp[eqA,Yo,Jd,TI.agg]
theorem k1h{a b:List Sy}{j:Nat}(h1:j<a.length)(h2:j<b.length)(h:a.take j=b.take j)(e:a[j]=b[j]):a.take (j+1)=b.take (j+1):=by rw[zP h1,zP h2,h,e]
theorem y0x(a b:List Sy):PC Tryz.prog 33 [LSy a,LSy b] (fun r=>r= .bool (decide (a=b))):=by
 refine Ql tOk Tryz.func33 rfl Tryz.results33 rfl (by simp[Tryz.ntmps33]) ?_;rw[Tryz.ntmps33];simp only[Qg];refine Ry 0 rfl (fun hlen=> ?_);rw[zZ]at hlen;repeat first|(refine r_ ?_;simp)|refine q_ ?_
 refine Qb rfl (fun h=> ?_) (fun h1=> ?_)
 ·repeat first|(refine r_ ?_;simp)|refine q_ ?_
  rintro rfl;simp at h
 have hl:a.length=b.length:=by simp at h1;omega
 repeat first|(refine r_ ?_;simp)|refine q_ ?_
 refine Qr a.length (fun j=>a.take j=b.take j) (fun j=>[(0,LSy a),(1,LSy b),(12,.i a.length),(13,.i j)]) (fun _=>[]) rfl (by simp) (by simp) (by simp) (by simp) (by simp) ?_;intro j hj hI ih;repeat first|(refine r_ ?_;simp)|refine q_ ?_
 refine Qb rfl (fun z8=> ?_) (fun za=> ?_)
 ·have z1:j<a.length:=by simpa using z8
  have z6:j<b.length:=by omega
  repeat first|(refine r_ ?_;simp)|refine q_ ?_
  refine Qn tOk mixed [] (.val 0 (.val 1 (.val 2 (.val 3 (.val 4 (.val 5 (.val 6 (.val 7 (.val 8 (.done)))))))))) rfl (by kernel_rfl) ?_;simp[z1,z6,q2b];refine Qb rfl (fun h=> ?_) (fun h=> ?_)
  ·repeat first|(refine r_ ?_;simp)|refine q_ ?_
   rintro rfl;simp at h
  ·repeat first|(refine r_ ?_;simp)|refine q_ ?_
   have he:a[j]=b[j]:=by
    have h2:a[j].ty=b[j].ty∧a[j].num=b[j].num:=by simpa using h
    cases ha:a[j];cases hb:b[j];rw[ha,hb]at h2;simp only at h2;rw[h2.1,h2.2]
   refine Qq _ (ih z1 (k1h z1 z6 hI he)) rfl (by simp) ?_ (by simp) (by simp);simp;exact wrap_i64 _ (by omega) (by omega)
 ·have z7:j=a.length:=by simp at za;omega
  subst z7;repeat first|(refine r_ ?_;simp)|refine q_ ?_
  rw[zO (zQ _),zO (by omega)]at hI;exact hI
end Go.Abs
namespace Go.Abs
open Go Go.Proofs Go.RowKit Go.Shelf Go.Lib Go.Sort
abbrev BIv:={ x:Iv // U7 x }
instance:Inhabited BIv:=⟨⟨⟨0,0⟩,by unfold U7 inB;decide⟩⟩
def x18(x:BIv):List Value:=Lw x.1
def d1o(x y:BIv):Int:=x.1.lo - y.1.lo
theorem q0y(x y:BIv)(W:World):Calls Tryz.prog 195 #[.agg #[.int .i64 x.1.lo,.int .i64 x.1.hi],.agg #[.int .i64 y.1.lo,.int .i64 y.1.hi]] W fun e w'=>e= .returned (.int .i64 (d1o x y))∧∃q os',w'=grow (W.drewN q) os':=by
 have h1:=(Eb _).1 x.2.1;have h2:=(Eb _).1 y.2.1;have hw:IntKind.i64.wrap (x.1.lo - y.1.lo)=d1o x y:=wrap_i64 _ (by omega) (by omega)
 go_enter Tryz.func195,Tryz.ntmps195
 go_wp2
 go_ret
 exact⟨rfl,0,_,by rw[alloc_eq_grow,alloc_eq_grow,grow_grow];rfl⟩
theorem u1a(x y:BIv):ltOf d1o x y=decide (x.1.lo<y.1.lo):=by unfold ltOf d1o;rw[xU];simp;omega
theorem q22:SWO (ltOf d1o) where
 irrefl x:=by rw[u1a];simp
 trans x y z h1 h2:=by rw[u1a]at *;simp at *;omega
 ntrans x y z h1 h2:=by rw[u1a]at *;simp at *;omega
theorem x2m(l:List BIv):RowOf 2 ((l.map (·.1)).map encIv) (flatK x18 2 l.toArray) where
 size:=by simp
 width x hx:=by obtain⟨y,_,rfl⟩:=zR.1 hx;rfl
 cell i x hx j y hy:=by
  rw[zX,zX]at hx;obtain⟨z0,z1,rfl⟩:=zU.1 hx;obtain⟨z,hz,rfl⟩:=zU.1 z1;obtain⟨hi,rfl⟩:=zE.1 hz;have hj:j<2:=(zE.1 hy).1;rw[get_flatK _ _ _ _ (by simp;omega)];rw[show(i * 2+j) / 2=i by omega,show(i * 2+j) % 2=j by omega];rw[getElem!_pos l.toArray i (by simpa using hi)]
  match j,hj with
  |0,_=>simp[encIv,AV.cells]at hy;subst hy;rfl
  |1,_=>simp[encIv,AV.cells]at hy;subst hy;rfl
theorem w1h(H:List AObj)(p:Nat)(l:List BIv)(hp:H[p]? =some (.arr 187 2 ((l.map (·.1)).map encIv)))(hl:l.length≤1000000):
  FC Tryz.prog 179 [.sl p 2 0 l.length,.fn (.func 195) [] []] H
   (fun r H'=>r= .tup []∧∃l':List BIv,l'.Perm l∧Cl (l'.map (·.1))∧H'=H.set p (.arr 187 2 ((l'.map (·.1)).map encIv))):=by
 refine(d0z (xs:=(l.map (·.1)).map encIv) (Tw Tryz.func179 rfl rfl) (by simp) hp (x2m l) [.func (.func 195) #[] #[]] (fun w I m vs a b=>Ma _ w I m _ vs a b) (fun z1=>∃l':List BIv,l'.Perm l∧Cl (l'.map (·.1))∧z1=(l'.map (·.1)).map encIv) ?_ ?_).mono ?_
 ·intro b cap w hH hb hc;have eg:∀args w,(callFunc 195 args).run Tryz.prog w= .ok (.enter 195 args) w:=enters_of Tryz.func195 (by kernel_rfl) rfl;have:=AnyQ.slices_SortFunc Tryz.sortIv 2 Tryz.isAgg187 Tryz.sizeOf187 x18 (fun _=>rfl) (fun x v hv=>by simp[x18,Lw]at hv;rcases hv with rfl|rfl<;>rfl) d1o q22 195 #[] b 0 cap l.toArray w eg (fun _ _ _ _ x y=>q0y x y _) hH hb (by simp;omega);change Calls Tryz.prog 179 _ _ _ at this;rw[show(l.toArray).size=l.length by simp]at this;refine Calls.mono (this) ?_;rintro e w' ⟨rfl,d',n,os,h1,h2,rfl⟩;obtain⟨s1,_,s3⟩:=h1;have hs:d'.toList.length=l.length:=by simpa using s1
  refine⟨rfl,(d'.toList.map (·.1)).map encIv,flatK x18 2 d',n,os,⟨d'.toList,?_,?_,rfl⟩,by simp[hs],by simpa using x2m d'.toList,rfl⟩
  ·rw[show d'.extract 0 l.length=d' by simp[←hs],show l.toArray.extract 0 l.length=l.toArray by simp]at s3;simpa using s3
  ·refine wJ.2 (yR.2 fun i j hi hj z6=> ?_);have:=h2 i j (wn _) z6 (by omega);rw[u1a,getElem!_pos d' i (by simpa using hi),getElem!_pos d' j (by simpa using hj)]at this;simpa using this
 ·rintro h;have z7:l=[]:=by
   cases l with
   |nil=>rfl
   |cons x r=>simp at h
  subst z7;exact⟨⟨[],.refl _,.nil,rfl⟩,fun w=>AnyF.slices_SortFunc_none Tryz.sortIv none 0 _ w⟩
 ·rintro r H' ⟨rfl,z1,⟨l',h1,h2,rfl⟩,rfl⟩;exact⟨rfl,l',h1,h2,rfl⟩
theorem y1q(H:List AObj)(p:Nat)(l:List Iv)(hp:H[p]? =some (.arr 187 2 (l.map encIv)))(hl:l.length≤1000000)(z1:∀y∈l,U7 y):
  FC Tryz.prog 179 [.sl p 2 0 l.length,.fn (.func 195) [] []] H
   (fun r H'=>r= .tup []∧∃l':List Iv,l'.Perm l∧Cl l'∧H'=H.set p (.arr 187 2 (l'.map encIv))):=by
 have hb:(l.attach.map fun x=>(⟨x.1,z1 x.1 x.2⟩:BIv)).map (·.1)=l:=by simp
 have:=w1h H p (l.attach.map fun x=>(⟨x.1,z1 x.1 x.2⟩:BIv)) (by rw[hb];exact hp) (by simpa using hl);rw[show(l.attach.map fun x=>(⟨x.1,z1 x.1 x.2⟩:BIv)).length=l.length by simp]at this;refine this.mono ?_;rintro r H' ⟨rfl,l',h1,h2,rfl⟩;refine⟨rfl,l'.map (·.1),?_,h2,rfl⟩;have:=h1.map (·.1)
 rwa [hb]at this
end Go.Abs
namespace Go.Abs
open Go Go.Proofs Go.Maps Go.RowKit
attribute [local irreducible] W6 Qy W4 Qv U5 F3
theorem g05(T:Nat)(l:List Prd)(hT:T≤16)(hl:∀p∈l,PWf T p)(hn:∀i,i<T→(Qv l i).length≤1000000)(yf:l.length≤1000000):PC Tryz.prog 161 [.i T,LP l] (fun r=>r=encP (U5 T l)):=by
 refine Ql tOk Tryz.func161 rfl Tryz.results161 rfl (by simp[Tryz.ntmps161]) ?_;rw[Tryz.ntmps161];simp only[Qg];simp only[encP];repeat first|(refine r_ ?_;simp)|refine q_ ?_
 refine Ec tOk rfl rfl rfl T74 rfl U6 rfl rfl rfl (n:=T) (by simp;omega) (by unfold maxLen;omega) .nils rfl ?_;simp;repeat first|(refine r_ ?_;simp)|refine q_ ?_
 rw[Cu (fun k=>W4 (Qv l k))];refine Qp (Qc (sl':=[(0,.i T),(1,LP l),(4,.vptr 0 0),(5,.vptr 2 0),(17,.i T),(18,.i (0:Nat))]) ?_ (by simp));refine Qo (P:=Tryz.prog) (F:=fun(u:Nat×List AObj)=>⟨[(0,.i T),(1,LP l),(4,.vptr 0 0),(5,.vptr 2 0),(17,.i T),(18,.i u.1)],u.2⟩)
  (fun u=>u.1≤T∧3≤u.2.length∧u.2[0]? =some (.vars [.nils])∧u.2[1]? =some (.arr 171 1 (F3 (fun k=>W4 (Qv l k)) T u.1))∧u.2[2]? =some (.vars [.sl 1 1 0 T])) (fun u=>T - u.1) ?_ (0,_) ⟨by simp,by simp,rfl,rfl,rfl⟩
 rintro⟨i,H2⟩ ⟨hi,hH,g0,g1,g2⟩ ih;simp only at hi hH g0 g1 g2 ih ⊢;repeat first|(refine r_ ?_;simp)|refine q_ ?_
 refine Qb rfl (fun y4=> ?_) (fun y5=> ?_)
 ·have z7:i<T:=by simpa using y4
  have hw:IntKind.i64.wrap ((i:Int)+1)=i+1:=wrap_i64 _ (by omega) (by omega);have zd:=z0l (fun k=>W4 (Qv l k)) z7;have zr:=w0z (fun k=>W4 (Qv l k)) z7;have y6:=z01 (fun k=>W4 (Qv l k)) T i;have zi:=hn i z7;have zt:=fun H'=>ih (i+1,H');simp only[←zd]at zt;clear zd;generalize F3 (fun k=>W4 (Qv l k)) T i=row at *
  repeat first|(refine r_ ?_;simp)|refine q_ ?_
  refine Qs (sl':=[(0,.i T),(1,LP l),(4,.vptr 0 0),(5,.vptr 2 0),(6,.i i),(7,.nils),(17,.i T),(18,.i i),(21,LP l),(22,.i l.length),(23,.i (0:Nat))]) ?_ (by simp);refine Q3 7 187 2 rfl ?_;simp;have zh:=SL.start H2 187 2;refine Qp (Qc (sl':=[(0,.i T),(1,LP l),(4,.vptr 0 0),(5,.vptr 2 0),(6,.i i),(7,.sl H2.length 2 0 (Qv (l.take 0) i).length),(17,.i T),(18,.i i),(21,LP l),(22,.i l.length),(23,.i (0:Nat))]) ?_ (by simp[Uc]));refine Qo (P:=Tryz.prog) (F:=fun(u:Nat×Nat×List AObj)=>⟨[(0,.i T),(1,LP l),(4,.vptr 0 0),(5,.vptr 2 0),(6,.i i),(7,.sl u.2.1 2 0 (Qv (l.take u.1) i).length),(17,.i T),(18,.i i),(21,LP l),(22,.i l.length),(23,.i u.1)],u.2.2⟩)
   (fun u=>u.1≤l.length∧SL H2 u.2.2 u.2.1 187 2 ((Qv (l.take u.1) i).map encIv)) (fun u=>l.length - u.1) ?_ (0,H2.length,_) ⟨wn _,by rw[ww,Uc];exact zh⟩
  rintro⟨j,q,G⟩ ⟨hj,g⟩ ih2;simp only at hj g ih2 ⊢;repeat first|(refine r_ ?_;simp)|refine q_ ?_
  refine Qb rfl (fun za=> ?_) (fun zb=> ?_)
  ·have z1:j<l.length:=by simpa using za
   have ze:IntKind.i64.wrap ((j:Int)+1)=j+1:=wrap_i64 _ (by omega) (by omega);have hp:=hl _ (zK z1);have zj:i<l[j].length:=by rw[hp.1];exact z7
   have zc:=P3 z1 zj;have zk:(Qv (l.take (j+1)) i).length≤1000000:=by refine yO ?_ zi;unfold Qv;rw[←xP (j+1) l,x_,yB,xP];omega
   rw[zc,yB]at zk;have z6:=fun q' G'=>ih2 (j+1,q',G');simp only[zc]at z6;clear zc;have zu:(yX encP l)[j]? =some (encP l[j]):=by simp[z1]
   have zv:∀hh,(yX encP l)[j]'hh=encP l[j]:=fun hh=>by simp
   generalize l[j]=pj at *
   have y7:(pj.map encL)[i]? =some (encL pj[i]):=by simp[zj]
   have y8:∀hh,(pj.map encL)[i]'hh=encL pj[i]:=fun hh=>by simp
   generalize pj[i]=s at *;generalize Qv (l.take j) i=acc at *
   have zw:(acc.map encIv).length=acc.length:=by simp
   simp only[encP]at zu zv;repeat first|(refine r_ ?_;simp[zu,zv,z1,zj,y7,y8])|refine q_ ?_
   have g2:=g.add [.vars [.list (pj.map encL)]];generalize G++[AObj.vars [.list (pj.map encL)]]=Y at *;generalize zl:acc.map encIv=ac at *;refine Qe tOk rfl rfl U6 rfl Sl rfl (by decide) (by decide) rfl rfl rfl ?_
   simp[Qa g2.arr,Qi g2.arr,g2.arr,zw];refine⟨⟨fun y hy=> ?_,by simp[zw];omega⟩,?_⟩
   ·obtain⟨x,_,rfl⟩:=zR.1 hy;exact⟨rfl,rfl⟩
   repeat first|(refine r_ ?_;simp[ze])|refine q_ ?_
   refine Qc (sl':=[(0,.i T),(1,LP l),(4,.vptr 0 0),(5,.vptr 2 0),(6,.i i),(7,.sl Y.length 2 0 (acc++s).length),(17,.i T),(18,.i i),(21,LP l),(22,.i l.length),(23,.i (j+1:Nat))]) ?_ (by simp);refine z6 Y.length _ ⟨by omega,?_⟩ (by omega);rw[yF,zl];exact g2.put [] (ac++s.map encIv) (by simp)
  ·have z8:j=l.length:=by simp at zb;omega
   subst z8;rw[yP]at g ⊢;have zm:∀y∈Qv l i,U7 y∧y.lo≤y.hi:=fun y hy=>V9 hl hy;generalize yg:Qv l i=L at *
   have zn:=g.ge;repeat first|(refine r_ ?_;simp)|refine q_ ?_
   refine Q9 rfl rfl (y1q G q L g.arr zi (fun y hy=>(zm y hy).1)) rfl ?_;rintro r H' ⟨rfl,l',h1,h2,rfl⟩;simp;have hl':l'.length≤1000000:=by rw[h1.length_eq];exact zi
   have y9:=h1.length_eq;have zo:∀y∈l',U7 y:=fun y hy=>(zm y (h1.mem_iff.1 hy)).1;have zf:=Dt L l' (fun y hy=>(zm y hy).2) h1 h2;rw[←y9];have gq:=Qj g.arr (.arr 187 2 (l'.map encIv));have gk:∀j,j<H2.length→(G.set q (.arr 187 2 (l'.map encIv)))[j]? =H2[j]? :=fun j hj=>by rw[zB (by omega)];exact g.keep j hj
   generalize G.set q (.arr 187 2 (l'.map encIv))=G1 at *
   repeat first|(refine r_ ?_;simp)|refine q_ ?_
   refine Qs (sl':=[(0,.i T),(1,LP l),(4,.vptr 0 0),(5,.vptr 2 0),(6,.i i),(10,.nils),(17,.i T),(18,.i i),(37,.sl q 2 0 l'.length),(38,.i l'.length),(39,.i (0:Nat))]) ?_ (by simp);refine Wh q gq ?_;simp[AV.fz];rw[zO (by simp)];have ya:∀j,j<H2.length→(G1.set q .dead)[j]? =H2[j]? :=fun j hj=>by rw[zB (by omega)];exact gk j hj
   have yh:H2.length≤(G1.set q .dead).length:=by have:=Qh gq;simp;omega
   generalize G1.set q .dead=K at *;refine Q3 10 187 2 rfl ?_
   simp;have zh:=SL.start K 187 2;refine Qp (Qc (sl':=[(0,.i T),(1,LP l),(4,.vptr 0 0),(5,.vptr 2 0),(6,.i i),(10,.sl K.length 2 0 (Qy [] (l'.take 0)).length),(17,.i T),(18,.i i),(37,LIv l'),(38,.i l'.length),(39,.i (0:Nat))]) ?_ (by simp[Qy]));refine Qo (P:=Tryz.prog) (F:=fun(u:Nat×Nat×List AObj)=>⟨[(0,.i T),(1,LP l),(4,.vptr 0 0),(5,.vptr 2 0),(6,.i i),(10,.sl u.2.1 2 0 (Qy [] (l'.take u.1)).length),(17,.i T),(18,.i i),(37,LIv l'),(38,.i l'.length),(39,.i u.1)],u.2.2⟩)
    (fun u=>u.1≤l'.length∧SL K u.2.2 u.2.1 187 2 ((Qy [] (l'.take u.1)).map encIv)) (fun u=>l'.length - u.1) ?_ (0,K.length,_) ⟨wn _,by rw[ww,Qy,List.foldl_nil];exact zh⟩
   clear g gq gk ih2 zh zn;clear G G1 q;rintro⟨j,p,G⟩ ⟨hj,g⟩ ih2;simp only at hj g ih2 ⊢;repeat first|(refine r_ ?_;simp)|refine q_ ?_
   refine Qb rfl (fun za=> ?_) (fun zb=> ?_)
   ·have z1:j<l'.length:=by simpa using za
    have ze:IntKind.i64.wrap ((j:Int)+1)=j+1:=wrap_i64 _ (by omega) (by omega);have zd:Qy [] (l'.take (j+1))=W6 (Qy [] (l'.take j)) l'[j]:=by rw[zP z1,Uu]
    have zx:(Qy [] (l'.take j)).length≤j:=yO (Rb _ _) (by simp;omega);have zp:∀y∈Qy [] (l'.take j),U7 y:=Iq _ _ (by simp) (fun y hy=>zo y (xK hy));have z6:=fun p' G'=>ih2 (j+1,p',G');simp only[zd]at z6;clear zd;generalize Qy [] (l'.take j)=acc at *;generalize hx:l'[j]=x at *
    repeat first|(refine r_ ?_;simp[z1,hx])|refine q_ ?_
    rcases List.eq_nil_or_concat acc with rfl|⟨ini,y,rfl⟩
    ·refine Qn tOk mixed [] (.val 0 (.val 1 (.val 2 (.val 3 (.val 4 (.val 5 (.val 6 (.val 7 (.val 8 (.val 9 (.val 10 (.val 11 (.val 12 (.val 13 (.done))))))))))))))) rfl (by kernel_rfl) ?_;simp;refine Qk rfl ?_;simp;repeat first|(refine r_ ?_;simp)|refine q_ ?_
     refine Qe tOk rfl rfl U6 rfl Sl rfl (by decide) (by decide) rfl rfl rfl ?_;simp[Qa g.arr,Qi g.arr];refine⟨by simp[Wa,Qa g.arr,Qi g.arr]<;>omega,?_⟩;repeat first|(refine r_ ?_;simp[ze])|refine q_ ?_
     refine Qc (sl':=[(0,.i T),(1,LP l),(4,.vptr 0 0),(5,.vptr 2 0),(6,.i i),(10,.sl (G.length+2) 2 0 1),(17,.i T),(18,.i i),(37,LIv l'),(38,.i l'.length),(39,.i (j+1:Nat))]) ?_ (by simp);have:=z6 (G.length+2) _ ⟨by omega,by rw[W6];exact g.put [AObj.vars [AV.i x.lo,AV.i x.hi],AObj.arr 187 2 [encIv x]] _ rfl⟩ (by omega);rw[W6]at this;simpa using this
    ·have yi:=(Eb _).1 (zp y (by simp)).2;have zy:IntKind.i64.wrap (y.hi+1)=y.hi+1:=wrap_i64 _ (by omega) (by omega);have gA:=g.arr;rw[List.concat_eq_append]at g gA z6 zx ⊢;have hlen:(ini++[y]).length=ini.length+1:=by simp
     rw[hlen]at zx ⊢;have zz:IntKind.i64.wrap (ini.length:Int)=ini.length:=wrap_i64 _ (by omega) (by omega);have hg:((ini++[y]).map encIv)[ini.length]? =some (encIv y):=by simp
     have zg:(ini.length:Int)<ini.length+1:=by omega
     refine Qn tOk mixed [] (.val 0 (.val 1 (.val 2 (.val 3 (.val 4 (.val 5 (.val 6 (.val 7 (.val 8 (.val 9 (.val 10 (.val 11 (.val 12 (.val 13 (.done))))))))))))))) rfl (by kernel_rfl) ?_;simp[Qa gA,zz,hg,zy,zg];refine Qb rfl (fun h1=> ?_) (fun h1=> ?_)
     ·repeat first|(refine r_ ?_;simp)|refine q_ ?_
      refine Qn tOk mixed [14] (.val 0 (.val 1 (.val 2 (.val 3 (.val 4 (.val 5 (.val 6 (.val 7 (.val 8 (.val 9 (.val 10 (.val 11 (.val 12 (.val 13 (.one 14 (.done)))))))))))))))) rfl (by kernel_rfl) ?_;simp[Qa gA,zz,hg,zy,zg,Qi gA];repeat first|(refine r_ ?_;simp[ze])|refine q_ ?_
      have hR:W6 (ini++[y]) x=ini++[⟨y.lo,if y.hi<x.hi then x.hi else y.hi⟩]:=by rw[W9,if_pos (by simpa using h1)]
      rw[hR]at z6;refine Qc (sl':=[(0,.i T),(1,LP l),(4,.vptr 0 0),(5,.vptr 2 0),(6,.i i),(10,.sl p 2 0 (ini.length+1)),(17,.i T),(18,.i i),(37,LIv l'),(38,.i l'.length),(39,.i (j+1:Nat))]) ?_ (by simp);have:=z6 p _ ⟨by omega,g.upd [AObj.vars [AV.i x.lo,AV.i x.hi]] _⟩ (by omega);simpa using this
     ·repeat first|(refine r_ ?_;simp)|refine q_ ?_
      refine Qe tOk rfl rfl U6 rfl Sl rfl (by decide) (by decide) rfl rfl rfl ?_;simp[Qa gA,Qi gA];refine⟨by simp[Wa,Qa gA,Qi gA]<;>omega,?_⟩;repeat first|(refine r_ ?_;simp[ze])|refine q_ ?_
      have hR:W6 (ini++[y]) x=ini++[y]++[x]:=by rw[W9,if_neg (by simpa using h1)]
      rw[hR]at z6;refine Qc (sl':=[(0,.i T),(1,LP l),(4,.vptr 0 0),(5,.vptr 2 0),(6,.i i),(10,.sl (G.length+2) 2 0 (ini.length+2)),(17,.i T),(18,.i i),(37,LIv l'),(38,.i l'.length),(39,.i (j+1:Nat))]) ?_ (by simp);have:=z6 (G.length+2) _ ⟨by omega,g.put [AObj.vars [AV.i x.lo,AV.i x.hi],AObj.arr 187 2 [encIv x]] _ rfl⟩ (by omega);simpa using this
   ·have z8:j=l'.length:=by simp at zb;omega
    subst z8;rw[yP,zf]at g ⊢;refine Wh p g.arr ?_;simp[AV.fz];rw[zO (by simp)];have yj:=Qh g.arr;have yb:=g.ge;have yk:∀j,j<H2.length→(G.set p .dead)[j]? =H2[j]? :=fun j hj=>by rw[zB (by omega),g.keep j (by omega)];exact ya j hj
    have yl:3≤(G.set p .dead).length:=by simp;omega
    generalize G.set p .dead=Y at *
    have y0:=(yk 0 (by omega)).trans g0;have y1:=(yk 1 (by omega)).trans g1;have y2:=(yk 2 (by omega)).trans g2;have y1H:∀hh,Y[1]'hh= .arr 171 1 row:=fun hh=>(zY hh).2 y1;have yc:∀hh,row[i]'hh= .nils:=fun hh=>(zY hh).2 zr;repeat first|(refine r_ ?_;simp[y1,y2,y1H,z7,y6,zr,yc,hw])|refine q_ ?_
    refine Qc (sl':=[(0,.i T),(1,LP l),(4,.vptr 0 0),(5,.vptr 2 0),(17,.i T),(18,.i (i+1:Nat))]) ?_ (by simp);exact zt _ ⟨by omega,by simp;omega,Qd (by decide) y0 _,Qj y1 _,Qd (by decide) y2 _⟩ (by omega)
 ·have zq:i=T:=by simp at y5;omega
  subst zq;rw[Zv]at *
  have yd:(yJ i).map (fun k=>W4 (Qv l k))=U5 i l:=by unfold U5;rfl
  rw[yd]at *;refine Q1 1 g1 2 g2 ?_
  have y3:=z0c i l;have e0:∀Y,((H2.set 1 AObj.dead).set 2 Y)[0]? =some (AObj.vars [AV.nils]):=fun Y=>Qd (by decide) (Qd (by decide) g0 _) _;have ye:∀Y hh,((H2.set 1 AObj.dead).set 2 Y)[0]'hh=AObj.vars [AV.nils]:=fun Y hh=>by have:=e0 Y;rw[zI hh]at this;exact Option.some.inj this
  have e2:∀Y,((H2.set 1 AObj.dead).set 2 Y)[2]? =some Y:=fun Y=>Qj (Qd (by decide) g2 _) _;have e3:∀Y Z,(((H2.set 1 AObj.dead).set 2 Y).set 0 Z)[0]? =some Z:=fun Y Z=>Qj (e0 Y) _;simp[y3];rw[zO (by simp[y3])];repeat first|(refine r_ ?_;simp[e0,ye,e2,e3])|refine q_ ?_
  unfold U5;rw[vN]
end Go.Abs
namespace Go.Abs
open Go Go.Proofs Go.Maps Go.RowKit
def Z0(a:Aut)(cl:List Nat)(s:Int)(j t:Nat):List Prd:=(((Wk a s).take j).filter fun m=>decide (clD cl m=t)).map (·.on)
def Jy(ks:List Nat)(t:Nat):List Nat:=if t∈ks then ks else ks++[t]
def L9(a:Aut)(cl:List Nat)(s:Int)(j:Nat):List Nat:=((Wk a s).take j).foldl (fun ks m=>Jy ks (clD cl m)) []
theorem x1n(a:Aut)(cl:List Nat)(s:Int)(t:Nat):Z0 a cl s (Wk a s).length t=O9 a cl s t:=by simp[Z0,O9]
theorem k0w(a:Aut)(cl:List Nat)(s:Int){j:Nat}(h:j<(Wk a s).length):Z0 a cl s (j+1)=fun t=>if t=clD cl (Wk a s)[j]then Z0 a cl s j (clD cl (Wk a s)[j])++[(Wk a s)[j].on]else Z0 a cl s j t:=by
 funext t;unfold Z0;rw[zP h,wY,yF,List.filter_cons,List.filter_nil];by_cases e:t=clD cl (Wk a s)[j]
 ·subst e;simp
 ·rw[if_neg e,if_neg (by simpa using fun k=>e k.symm)];simp
theorem c0b(a:Aut)(cl:List Nat)(s:Int):L9 a cl s 0=[]:=by simp[L9]
theorem f0a(a:Aut)(cl:List Nat)(s:Int){j:Nat}(h:j<(Wk a s).length):L9 a cl s (j+1)=Jy (L9 a cl s j) (clD cl (Wk a s)[j]):=by unfold L9;rw[zP h,wG];rfl
theorem z03{ks:List Nat}{t u:Nat}:u∈Jy ks t↔u∈ks∨u=t:=by
 unfold Jy;split
 ·rename_i h;exact⟨.inl,fun k=>k.elim id (fun e=>e▸h)⟩
 ·simp
theorem d1c{ks:List Nat}{t:Nat}(h:ks.Nodup):(Jy ks t).Nodup:=by
 unfold Jy;split
 ·exact h
 ·rename_i hn;rw[vB];refine⟨h,by simp,fun x hx y hy e=>hn ?_⟩;rw[zT]at hy;rw[←hy,←e];exact hx
theorem g0x(cl:List Nat):∀(l:List Mv) (ks:List Nat) (t:Nat),t∈l.foldl (fun ks m=>Jy ks (clD cl m)) ks↔t∈ks∨∃m∈l,clD cl m=t
 |[],ks,t=>by simp
 |m::l,ks,t=>by
  rw[xZ,g0x cl l,z03];simp only[yE];constructor
  ·rintro((h|rfl)|⟨m',h1,h2⟩)
   ·exact .inl h
   ·exact .inr ⟨m,.inl rfl,rfl⟩
   ·exact .inr ⟨m',.inr h1,h2⟩
  ·rintro(h|⟨m',rfl|h1,h2⟩)
   ·exact .inl (.inl h)
   ·exact .inl (.inr h2.symm)
   ·exact .inr ⟨m',h1,h2⟩
theorem c16(cl:List Nat):∀(l:List Mv) (ks:List Nat),ks.Nodup→(l.foldl (fun ks m=>Jy ks (clD cl m)) ks).Nodup
 |[],_,h=>h
 |m::l,ks,h=>c16 cl l _ (d1c h)
theorem Xx{a:Aut}{cl:List Nat}{s:Int}{j t:Nat}:t∈L9 a cl s j↔∃m∈(Wk a s).take j,clD cl m=t:=by unfold L9;rw[g0x];simp
theorem g1o(a:Aut)(cl:List Nat)(s:Int)(j:Nat):(L9 a cl s j).Nodup:=c16 cl _ _ List.nodup_nil
theorem v1t{a:Aut}{cl:List Nat}{s:Int}{j t:Nat}(h:t∉L9 a cl s j):Z0 a cl s j t=[]:=by unfold Z0;rw[List.map_eq_nil_iff,List.filter_eq_nil_iff];intro m hm k;exact h (Xx.2 ⟨m,hm,by simpa using k⟩)
attribute [simp] z2n
def kvG(ks:List Nat)(gs:Nat→List Prd)(L:Nat→Nat):List (AV×AV):=ks.map fun t:Nat=>(.i t,.sl (L t) 1 0 (gs t).length)
theorem k10{ks:List Nat}(hn:ks.Nodup){gs:Nat→List Prd}{L:Nat→Nat}{j t np:Nat}(hj:ks[j]? =some t)(p:Prd):
  kvG ks (fun u=>if u=t then gs t++[p]else gs u) (fun u=>if u=t then np else L u)=(kvG ks gs L).set j (.i t,.sl np 1 0 ((gs t).length+1)):=by
 unfold kvG;refine xO fun i=> ?_;obtain⟨z6,z1⟩:=zE.1 hj;by_cases hi:i<ks.length
 ·by_cases e:i=j
  ·subst e;rw[zL (by simpa using hi),zX,hj];simp
  ·rw[zB (Ne.symm e),zX,zX,zI hi];have:ks[i]≠t:=fun k=>e ((vM hn).1 (k.trans z1.symm));simp[this]
 ·rw[yZ (by simp;omega),yZ (by simp;omega)]
theorem g1b{ks:List Nat}{gs:Nat→List Prd}{L:Nat→Nat}{t np:Nat}(ht:t∉ks)(h0:gs t=[])(p:Prd):
  kvG (ks++[t]) (fun u=>if u=t then gs t++[p]else gs u) (fun u=>if u=t then np else L u)=kvG ks gs L++[(.i t,.sl np 1 0 1)]:=by
 unfold kvG;rw[yF]
 congr 1
 ·refine xT fun u hu=> ?_;have:u≠t:=fun e=>ht (e▸hu);simp[this]
 ·simp[h0]
structure MG (K:List AObj) (M:Nat) (ks:List Nat) (gs:Nat→List Prd) (L:Nat→Nat) (H:List AObj):Prop where
 map:H[M]? =some (.mv (kvG ks gs L))
 leaf:∀t∈ks,H[L t]? =some (.arr 76 1 ((gs t).map encP))
 inj:∀t t',t∈ks→t'∈ks→L t=L t'→t=t'
 ne:∀t∈ks,L t≠M
 geM:K.length≤M
 geL:∀t∈ks,K.length≤L t
 keep:∀j,j<K.length→H[j]? =K[j]?
theorem MG.grow{K:List AObj}{M:Nat}{ks:List Nat}{gs:Nat→List Prd}{L:Nat→Nat}{H:List AObj}(h:MG K M ks gs L H)(E:List AObj):MG K M ks gs L (H++E):=by have hm:=Qh h.map;have z1:=h.geM;exact⟨Qa h.map E,fun t ht=>Qa (h.leaf t ht) E,h.inj,h.ne,h.geM,h.geL,fun j hj=>by rw[zF (by omega)];exact h.keep j hj⟩
theorem MG.put {K:List AObj} {M:Nat} {ks:List Nat} {gs:Nat→List Prd} {L:Nat→Nat} {H H':List AObj} (h:MG K M ks gs L H) {t:Nat} {p:Prd} {np:Nat} (zb:H.length≤np)
  (z8:H'[M]? =some (.mv (kvG (Jy ks t) (fun u=>if u=t then gs t++[p]else gs u) (fun u=>if u=t then np else L u)))) (z6:H'[np]? =some (.arr 76 1 ((gs t++[p]).map encP)))
  (hk:∀j,j<H.length→j≠M→(t∈ks→j≠L t)→H'[j]? =H[j]?):MG K M (Jy ks t) (fun u=>if u=t then gs t++[p]else gs u) (fun u=>if u=t then np else L u) H':=by
 have hm:=Qh h.map;have hL:=fun u hu=>Qh (h.leaf u hu);have z1:∀u,u∈Jy ks t→u≠t→u∈ks:=fun u hu za=>(z03.1 hu).resolve_right za;refine⟨z8,fun u hu=> ?_,fun u v hu hv e=> ?_,fun u hu=> ?_,h.geM,fun u hu=> ?_,fun j hj=> ?_⟩
 ·by_cases e:u=t
  ·subst e;simpa using z6
  ·simp only[e,if_false];have z7:=z1 u hu e;rw[hk _ (hL u z7) (h.ne u z7) (fun ht k=>e (h.inj u t z7 ht k))];exact h.leaf u z7
 ·by_cases e1:u=t
  ·by_cases e2:v=t
   ·rw[e1,e2]
   ·simp only[e1,e2,if_true,if_false]at e;have:=hL v (z1 v hv e2);omega
  ·by_cases e2:v=t
   ·simp only[e1,e2,if_true,if_false]at e;have:=hL u (z1 u hu e1);omega
   ·simp only[e1,e2,if_false]at e;exact h.inj u v (z1 u hu e1) (z1 v hv e2) e
 ·by_cases e:u=t
  ·simp only[e,if_true];omega
  ·simp only[e,if_false];exact h.ne u (z1 u hu e)
 ·have:=h.geM;by_cases e:u=t
  ·simp only[e,if_true];omega
  ·simp only[e,if_false];exact h.geL u (z1 u hu e)
 ·have zc:=h.geM;rw[hk j (by omega) (by omega) (fun ht e=>by have:=h.geL t ht;omega)];exact h.keep j hj
section
variable {nt k:Nat} {S:AS} {ops:Array Oper} {o:Oper} {R:AS→Prop}
theorem q1i{ks:List Nat}(hk:∀t∈ks,t≤1000000)(gs:Nat→List Prd)(L:Nat→Nat):∀p∈kvG ks gs L,isKey Tryz.prog 3 p.1:=fun p hp=>by obtain⟨t,ht,rfl⟩:=zR.1 hp;exact Ya ⟨by omega,by have:=hk t ht;omega⟩
theorem Jw {wr:Bool} (hw:Q7 ops S o=some true) (hd:W7 nt o=true) {x ix:Operand} (ho:o.op= .lookup 241 x ix false) {id:Nat} (hx:rho S.sl x=some (.mref id)) {t:Nat} (z1:rho S.sl ix=some (.i t)) {ks:List Nat} {gs:Nat→List Prd} {L:Nat→Nat} (z6:S.hp[id]? =some (.mv (kvG ks gs L)))
  (hk:∀t∈ks,t≤1000000) (ht:t≤1000000) (hR:R (S.putD o.dst (if t∈ks then .sl (L t) 1 0 (gs t).length else .nils))):Wv Tryz.prog nt k wr ops o S R:=by
 refine Xb tOk hw hd ho z2n rfl T91 Sb hx z1 z6 (Ya ⟨by omega,by omega⟩) (q1i hk gs L) (z:= .nils) (fun w I=> .nils ..) (fun j p hp he=> ?_) (fun z7=> ?_)
 ·unfold kvG at hp;rw[zX]at hp;obtain⟨u,hu,rfl⟩:=zU.1 hp;have z8:u=t:=by simp at he;omega
  subst z8;rw[if_pos (zJ hu)]at hR;exact hR
 ·have:t∉ks:=fun h=>z7 _ (zR.2 ⟨t,h,rfl⟩) rfl;rw[if_neg this]at hR;exact hR
theorem Lv (hw:Q7 ops S o=some true) (hd:W7 nt o=true) {x ix y:Operand} (ho:o.op= .mapUpdate 241 x ix y) {id:Nat} (hx:rho S.sl x=some (.mref id)) {t:Nat} (z6:rho S.sl ix=some (.i t)) {np n:Nat} (hy:rho S.sl y=some (.sl np 1 0 n)) {ks:List Nat} {gs:Nat→List Prd} {L:Nat→Nat} (z7:S.hp[id]? =some (.mv (kvG ks gs L)))
  (hk:∀t∈ks,t≤1000000) (ht:t≤1000000) (z8:ks.Nodup) (h0:t∉ks→gs t=[]) (p:Prd) (hn:n=(gs t).length+1) (hR:R (({ S with hp:=S.hp.set id (.mv (kvG (Jy ks t) (fun u=>if u=t then gs t++[p]else gs u) (fun u=>if u=t then np else L u))) }:AS).putD o.dst (.tup []))):Wv Tryz.prog nt k true ops o S R:=by
 subst hn;refine Fg tOk hw hd ho z2n rfl Sb hx z6 hy z7 (Ya ⟨by omega,by omega⟩) (q1i hk gs L) (fun j q hq he=> ?_) (fun za=> ?_)
 ·unfold kvG at hq;rw[zX]at hq;obtain⟨u,hu,rfl⟩:=zU.1 hq;have zb:u=t:=by simp at he;omega
  subst zb;have ha:Jy ks u=ks:=by unfold Jy;rw[if_pos (zJ hu)]
  rw[ha,k10 z8 hu p]at hR;exact hR
 ·have z1:t∉ks:=fun h=>za _ (zR.2 ⟨t,h,rfl⟩) rfl;have ha:Jy ks t=ks++[t]:=by unfold Jy;rw[if_neg z1]
  rw[ha,g1b z1 (h0 z1) p]at hR;rw[h0 z1];exact hR
end
end Go.Abs
namespace Go.Abs
open Go Go.Proofs Go.Maps Go.RowKit
def kvX(ks:List Nat)(gs:Nat→List Prd)(L:Nat→Nat)(k:Nat):List (AV×AV):=ks.mapIdx fun i (t:Nat)=>(.i t,if i<k then .list ((gs t).map encP)else .sl (L t) 1 0 (gs t).length)
theorem x1c(ks:List Nat)(gs:Nat→List Prd)(L:Nat→Nat):kvX ks gs L 0=kvG ks gs L:=by unfold kvX kvG;refine xO fun i=> ?_;rw[vA,zX];cases ks[i]? <;>simp
theorem k1y(ks:List Nat)(gs:Nat→List Prd)(L:Nat→Nat):kvX ks gs L ks.length=ks.map fun t:Nat=>(.i t,.list ((gs t).map encP)):=by
 unfold kvX;refine xO fun i=> ?_;rw[vA,zX];by_cases h:i<ks.length
 ·rw[zI h];simp[h]
 ·rw[yZ (by omega)];simp
theorem x1h{ks:List Nat}(hn:ks.Nodup){gs:Nat→List Prd}{L:Nat→Nat}(z1:∀t t',t∈ks→t'∈ks→L t=L t'→t=t'){k t:Nat}(hk:ks[k]? =some t):
  (kvX ks gs L k).map (fun p=>(p.1,p.2.fz (L t) 1 ((gs t).map encP)))=kvX ks gs L (k+1):=by
 obtain⟨z7,z6⟩:=zE.1 hk;unfold kvX;refine xO fun i=> ?_;rw[zX,vA,vA];by_cases h:i<ks.length
 ·rw[zI h];simp only[Option.map_some];by_cases e:i=k
  ·subst e;rw[z6,if_neg (by omega),if_pos (by omega),AV.fz,if_pos ⟨rfl,rfl,by simp⟩];simp[zO]
  ·by_cases h2:i<k
   ·rw[if_pos h2,if_pos (by omega)];simp[AV.fz]
   ·rw[if_neg h2,if_neg (by omega),AV.fz,if_neg];rintro⟨e2,_⟩;have:=z1 _ _ (zK h) (zJ hk) e2;exact e ((vM hn).1 (this.trans z6.symm))
 ·rw[yZ (by omega)];simp
section
variable {P:Program} [Env P] {nt kk:Nat} {cd:Code} {Q:Exit→AS→Prop}
theorem MG.freeze {M:Nat} {ks:List Nat} {gs:Nat→List Prd} {L:Nat→Nat} {sl:List (Nat×AV)} (hn:ks.Nodup) (z6:∀t t',t∈ks→t'∈ks→L t=L t'→t=t') (z8:∀t∈ks,L t≠M)
  (za:∀t∈ks,sl.map (fun p=>(p.1,p.2.fz (L t) 1 ((gs t).map encP)))=sl):∀(d k:Nat) (H:List AObj),k+d=ks.length→H[M]? =some (.mv (kvX ks gs L k))→(∀i t,k≤i→ks[i]? =some t→H[L t]? =some (.arr 76 1 ((gs t).map encP)))→
  (∀H',H'[M]? =some (.mv (kvX ks gs L ks.length))→H'.length=H.length→(∀j,j<H.length→j≠M→(∀t∈ks,j≠L t)→H'[j]? =H[j]?)→AWP P nt kk cd Q ⟨sl,H'⟩)→AWP P nt kk cd Q ⟨sl,H⟩
 |0,k,H,hd,hm,hl,h=>by
  have:k=ks.length:=by omega
  subst this;exact h H hm rfl fun _ _ _ _=>rfl
 |d+1,k,H,hd,hm,hl,h=>by
  have zb:k<ks.length:=by omega
  have hk:ks[k]? =some ks[k]:=zI zb;have z1:=zK zb;generalize ks[k]=t at *
  have zf:=hl k t (zQ _) hk;have zg:=Qh hm;refine Yd (L t) zf M hm (Ne.symm (z8 t z1)) rfl ?_;rw[za t z1,AObj.fz,x1h hn z6 hk];refine MG.freeze hn z6 z8 za d (k+1) _ (by omega) (zL (by simpa using zg)) (fun i u hi hu=> ?_) fun H' zh z7 zi=>h H' zh (by simpa using z7) fun j hj zc zd=> ?_
  ·have ze:=zJ hu;rw[zB (Ne.symm (z8 u ze)),zB (fun e2=> ?_)]
   ·exact hl i u (by omega) hu
   ·have e3:=z6 t u z1 ze e2;subst e3;obtain⟨h1,h2⟩:=zE.1 hk;obtain⟨h3,h4⟩:=zE.1 hu;have:=(vM hn).1 (h2.trans h4.symm);omega
  ·rw[zi j (by simpa using hj) zc zd,zB (Ne.symm zc),zB (Ne.symm (zd t z1))]
end
end Go.Abs
namespace Go.Abs
theorem M6{o:List Nat}{c:Nat}(h:c∈o):∃i,Jx o c=i∧o[i]? =some c∧∀j,j<i→o[j]? ≠some c:=by
 unfold Jx;cases hf:o.findIdx? fun d=>decide (d=c)with
 |none=>rw[wL]at hf;have:=hf c h;simp at this
 |some i=>rw[xA]at hf;obtain⟨h1,h2,h3⟩:=hf;refine⟨i,rfl,by rw[zI h1];simpa using h2,fun j hj e=> ?_⟩;obtain⟨hl,e2⟩:=zE.1 e;have:=h3 j hj;rw[e2]at this;simp at this
theorem y0o{o:List Nat}{c:Nat}(h:c∈o)(r:List Nat):Jx (o++r) c=Jx o c:=by
 obtain⟨i,e,h1,h2⟩:=M6 h;obtain⟨k,e',h3,h4⟩:=M6 (o:=o++r) (xE r h);rw[e,e'];have z1:=Rc h1;rcases Nat.lt_trichotomy i k with hl|hl|hl
 ·have:=h4 i hl;rw[zF z1]at this;exact absurd h1 this
 ·exact hl.symm
 ·rw[zF (by omega)]at h3;exact absurd h3 (h2 k hl)
theorem d0i{o:List Nat}{c:Nat}(h:c∉o):Jx (o++[c]) c=o.length:=by
 obtain⟨k,e',h3,h4⟩:=M6 (o:=o++[c]) (c:=c) (by simp);rw[e'];have hk:=Rc h3;simp at hk;by_cases hl:k<o.length
 ·rw[zF hl]at h3;exact absurd (zJ h3) h
 ·omega
theorem w14{o:List Nat}{c d:Nat}(h:c∈o):Jx (O3 o d) c=Jx o c:=by obtain⟨r,e,_⟩:=Fq o d;rw[e,y0o h]
theorem Pu{o:List Nat}{l:List Mv}{j:Nat}(h:j<l.length):Wj o (l.take (j+1))=O3 (Wj o (l.take j)) l[j].dst.toNat:=by unfold Wj;rw[zP h,wG];rfl
theorem v0w{o:List Nat}{l:List Mv}{m:Mv}(h:m∈l):m.dst.toNat∈Wj o l:=by
 induction l generalizing o with
 |nil=>cases h
 |cons x l ih=>
  have pre:∀(l:List Mv) (o:List Nat) (c:Nat),c∈o→c∈Wj o l:=by
   intro l;induction l with
   |nil=>intro o c hc;exact hc
   |cons y l ih2=>intro o c hc;refine ih2 (O3 o y.dst.toNat) c ?_;obtain⟨r,e,_⟩:=Fq o y.dst.toNat;rw[e];exact xE _ hc
  rcases yE.1 h with rfl|h
  ·exact pre l _ _ (X1 _ _)
  ·exact ih h
theorem Dc(o:List Nat)(l:List Mv):∃r,Wj o l=o++r:=by
 induction l generalizing o with
 |nil=>exact⟨[],by simp[Wj]⟩
 |cons x l ih=>obtain⟨r,e⟩:=ih (O3 o x.dst.toNat);obtain⟨r',e',_⟩:=Fq o x.dst.toNat;refine⟨r'++r,?_⟩;have:Wj o (x::l)=Wj (O3 o x.dst.toNat) l:=rfl;rw[this,e,e',xW]
def qMv(o:List Nat)(l:List Mv)(n j:Nat):List Mv:=(l.take j).map fun m=>⟨n,(Jx (Wj o (l.take j)) m.dst.toNat:Nat),m.on⟩
theorem Fi(o:List Nat)(l:List Mv)(n:Nat):qMv o l n 0=[]:=by simp[qMv]
theorem j07(o:List Nat)(l:List Mv)(n j:Nat):(qMv o l n j).length≤l.length:=by unfold qMv;simp;omega
theorem w0t(o:List Nat)(l:List Mv)(n:Nat){j:Nat}(h:j<l.length):
  qMv o l n (j+1)=qMv o l n j++[⟨n,(Jx (O3 (Wj o (l.take j)) l[j].dst.toNat) l[j].dst.toNat:Nat),l[j].on⟩]:=by
 unfold qMv;rw[Pu h,zP h,yF]
 congr 1
 refine xT fun m hm=> ?_;rw[w14 (v0w hm)]
theorem k1v(a:Aut){o:List Nat}{n:Nat}{c:Nat}(h:o[n]? =some c):qMv o (Ih a c) n (Ih a c).length=mvN a (Wj o (Ih a c)) n:=by
 unfold qMv mvN;rw[yP];obtain⟨r,e⟩:=Dc o (Ih a c);have:(Wj o (Ih a c)).getD n 0=c:=by rw[e,yV,zF (Rc h),h];rfl
 rw[this]
structure QI (a:Aut) (i:Nat) (o:List Nat):Prop where
 nd:o.Nodup
 cl:∀c∈o,Kv a c
 le:i≤o.length
 bfs:Jc a (a.fin.length+1 - i) i o=k0p a
 done:∀(j c:Nat),j<i→o[j]? =some c→∀m∈Ih a c,m.dst.toNat∈o
theorem QI.zero{a:Aut}(ha:Dfa a):QI a 0 [Rj a 0]:=
 ⟨by simp,fun c hc=>by rw[zT.1 hc];exact y0i ha ha.zero,by simp,rfl,fun j c hj=>by omega⟩
theorem QI.len{a:Aut}(ha:Dfa a){i:Nat}{o:List Nat}(h:QI a i o):o.length≤a.fin.length:=q0p ha h.nd h.cl
theorem QI.step{a:Aut}(ha:Dfa a){i:Nat}{o:List Nat}(h:QI a i o){c:Nat}(hc:o[i]? =some c):QI a (i+1) (Wj o (Ih a c)):=by
 have hl:=h.len ha;have hi:=Rc hc;obtain⟨⟨r,h1,h2⟩,h3,h4⟩:=Pq (Ih a c) o h.nd;have z1:=h.cl c (zJ hc);refine⟨h3,fun d hd=> ?_,by rw[h1,yB];omega,?_,fun j d hj hd m hm=> ?_⟩
 ·rw[h1]at hd;rcases zV.1 hd with hd|hd
  ·exact h.cl d hd
  ·obtain⟨m,hm,e⟩:=h2 d hd;obtain⟨x,_,e2,_,e4,_⟩:=Fj ha z1 hm;rw[e,e2];simpa using e4
 ·have:=h.bfs;rw[show a.fin.length+1 - i=(a.fin.length+1 - (i+1))+1 by omega,Jc,hc]at this;exact this
 ·rw[h1,zF (by omega)]at hd;by_cases e:j=i
  ·subst e;rw[hc]at hd;cases hd;exact h4 m hm
  ·rw[h1];exact xE _ (h.done j d (by omega) hd m hm)
theorem QI.fin{a:Aut}(ha:Dfa a){i:Nat}{o:List Nat}(h:QI a i o)(hi:i=o.length):o=k0p a:=by have hl:=h.len ha;have:=h.bfs;rw[show a.fin.length+1 - i=(a.fin.length - i)+1 by omega,Jc,yZ (by omega)]at this;exact this
def qM(a:Aut)(i:Nat)(o:List Nat):List Mv:=(yJ i).flatMap (mvN a o)
theorem Z7(a:Aut)(o:List Nat):qM a 0 o=[]:=by simp[qM]
theorem c09{a:Aut}{i:Nat}{o:List Nat}(h:QI a i o){c:Nat}(hc:o[i]? =some c):qM a (i+1) (Wj o (Ih a c))=qM a i o++qMv o (Ih a c) i (Ih a c).length:=by
 rw[k1v a hc];unfold qM;rw[wp,x_]
 congr 1
 ·rw[tp,tp]
  congr 1
  refine xT fun j hj=> ?_;have z1:=yW.1 hj;have z6:j<o.length:=wt z1 h.le;obtain⟨r,e⟩:=Dc o (Ih a c);have g1:(Wj o (Ih a c)).getD j 0=o.getD j 0:=by rw[e,yV,yV,zF z6]
  unfold mvN;rw[g1];refine xT fun m hm=> ?_;have hg:o[j]? =some (o.getD j 0):=by simp[yV,z6]
  rw[e,y0o (h.done j _ z1 hg m hm)]
 ·simp
def qF(a:Aut)(o:List Nat):List Bool:=o.map fun c=>a.fin.getD (Y5 a c) false
theorem q1p(a:Aut){o:List Nat}{i:Nat}{c:Nat}(l:List Mv)(h:o[i]? =some c):qF a ((Wj o l).take (i+1))=qF a (o.take i)++[a.fin.getD (Y5 a c) false]:=by obtain⟨r,e⟩:=Dc o l;have hi:=Rc h;rw[e,List.take_append_of_le_length (by omega)];obtain⟨_,rfl⟩:=zE.1 h;rw[zP hi];unfold qF;rw[yF,yY,wI]
theorem Td(o:List Nat):Wj o []=o:=rfl
theorem Lg(o:List Nat)(l:List Mv){n:Nat}(h:l.length≤n):(Wj o l).length≤o.length+n:=by
 have key:∀(l:List Mv) (o:List Nat),(Wj o l).length≤o.length+l.length:=by
  intro l;induction l with
  |nil=>intro o;simp[Wj]
  |cons x l ih=>
   intro o;have h1:=ih (O3 o x.dst.toNat);have h2:(O3 o x.dst.toNat).length≤o.length+1:=by unfold O3;split<;>simp
   have h3:Wj o (x::l)=Wj (O3 o x.dst.toNat) l:=rfl;rw[h3,yS];omega
 have:=key l o;omega
theorem u1g(a:Aut):qF a []=[]:=rfl
theorem w04(a:Aut)(o:List Nat):(qF a o).length=o.length:=by simp[qF]
theorem u1i{a:Aut}(ha:Dfa a){i:Nat}{o:List Nat}(h:QI a i o):(qM a i o).length≤600000:=by
 have hl:=h.len ha;have hf:=ha.ok.fin;have hm:=ha.ok.mvs;have key:∀j,j≤i→((yJ j).flatMap (mvN a o)).length≤j * 2048:=by
  intro j;induction j with
  |zero=>intro _;simp
  |succ j ih=>
   intro hj;rw[wp,x_,yB];have h1:=ih (by omega);have h2:(mvN a o j).length≤2048:=by
    have z1:j<o.length:=wt hj h.le;have hc:=h.cl _ (zK z1);have e:o.getD j 0=o[j]:=by simp[yV,z1]
    have h3:=Fp ha hc;have h4:(Wk a (Y5 a o[j]:Nat)).length≤a.mv.length:=xM _ _;unfold mvN;rw[zZ,e];omega
   simp only[List.flatMap_cons,List.flatMap_nil,xD];omega
 have:=key i (zQ _);have:=h.le;unfold qM;omega
theorem d0y{a:Aut}(ha:Dfa a){i:Nat}{o:List Nat}(h:QI a i o)(hi:i=o.length):Ww a=⟨a.types,qF a (o.take i),qM a i o⟩:=by have:=h.fin ha hi;rw[hi,yP];unfold Ww Gq qF qM;rw[←this]
end Go.Abs
namespace Go.Abs
open Go Go.Proofs
theorem Mn(l:List Mv)(to:Int):PC Tryz.prog 190 [.list (l.map encMv),.i to] (fun r=>r= .i (Db (fun m:Mv=>m.dst==to) l)):=by
 refine Ql tOk Tryz.func190 rfl Tryz.results190 rfl (by simp[Tryz.ntmps190]) ?_;rw[Tryz.ntmps190];simp only[Qg];refine Ry 0 rfl (fun hlen=> ?_);rw[zZ]at hlen;repeat first|(refine r_ ?_;simp)|refine q_ ?_
 refine Qr l.length (fun j=>∀i,∀hi:i<l.length,i<j→(l[i].dst==to)=false) (fun j=>[(0,.list (l.map encMv)),(1,.i to),(5,.i j)]) (fun _=>[]) rfl (by simp) (by simp) (by simp) (by simp) (by simp) ?_;intro j hj hI ih;repeat first|(refine r_ ?_;simp)|refine q_ ?_
 refine Qb rfl (fun z7=> ?_) (fun z8=> ?_)
 ·have z1:j<l.length:=by simpa using z7
  have hw:IntKind.i64.wrap ((j:Int)+1)=j+1:=wrap_i64 _ (by omega) (by omega);repeat first|(refine r_ ?_;simp[z1])|refine q_ ?_
  refine Qb rfl (fun h=> ?_) (fun h=> ?_)
  ·repeat first|(refine r_ ?_;simp)|refine q_ ?_
   rw[Uw (f:=fun m:Mv=>m.dst==to) z1 h hI]
  ·repeat first|(refine r_ ?_;simp[hw])|refine q_ ?_
   refine Qq _ (ih z1 (fun i hi za=> ?_)) rfl (by simp) ?_ (by simp) (by simp)
   ·by_cases e:i=j
    ·subst e;exact h
    ·exact hI i hi (by omega)
   ·simp
 ·have z6:j=l.length:=by simp at z8;omega
  subst z6;repeat first|(refine r_ ?_;simp)|refine q_ ?_
  rw[Tt (f:=fun m:Mv=>m.dst==to) hI]
theorem F8(l:List Int)(n:Int):PC Tryz.prog 143 [LI l,.i n] (fun r=>r= .i (Db (fun m:Int=>m==n) l)):=by
 refine Ql tOk Tryz.func143 rfl Tryz.results143 rfl (by simp[Tryz.ntmps143]) ?_;rw[Tryz.ntmps143];simp only[Qg];refine Ry 0 rfl (fun hlen=> ?_);rw[zZ]at hlen;repeat first|(refine r_ ?_;simp)|refine q_ ?_
 refine Qr l.length (fun j=>∀i,∀hi:i<l.length,i<j→(l[i]==n)=false) (fun j=>[(0,LI l),(1,.i n),(5,.i j)]) (fun _=>[]) rfl (by simp) (by simp) (by simp) (by simp) (by simp) ?_;intro j hj hI ih;repeat first|(refine r_ ?_;simp)|refine q_ ?_
 refine Qb rfl (fun z7=> ?_) (fun z8=> ?_)
 ·have z1:j<l.length:=by simpa using z7
  have hw:IntKind.i64.wrap ((j:Int)+1)=j+1:=wrap_i64 _ (by omega) (by omega);repeat first|(refine r_ ?_;simp[z1])|refine q_ ?_
  refine Qb rfl (fun h=> ?_) (fun h=> ?_)
  ·repeat first|(refine r_ ?_;simp)|refine q_ ?_
   rw[Uw (f:=fun m:Int=>m==n) z1 h hI]
  ·repeat first|(refine r_ ?_;simp[hw])|refine q_ ?_
   refine Qq _ (ih z1 (fun i hi za=> ?_)) rfl (by simp) ?_ (by simp) (by simp)
   ·by_cases e:i=j
    ·subst e;exact h
    ·exact hI i hi (by omega)
   ·simp
 ·have z6:j=l.length:=by simp at z8;omega
  subst z6;repeat first|(refine r_ ?_;simp)|refine q_ ?_
  rw[Tt (f:=fun m:Int=>m==n) hI]
def d1i(l:List Int)(n:Int):Int:=if Db (fun m:Int=>m==n) l<0 then 0 else Db (fun m:Int=>m==n) l
theorem y04(l:List Int)(n:Int):PC Tryz.prog 141 [LI l,.i n] (fun r=>r= .i (d1i l n)):=by
 refine Ql tOk Tryz.func141 rfl Tryz.results141 rfl (by simp[Tryz.ntmps141]) ?_;rw[Tryz.ntmps141];simp only[Qg];refine Ry 0 rfl (fun hlen=> ?_);rw[zZ]at hlen;repeat first|(refine r_ ?_;simp)|refine q_ ?_
 refine Qr l.length (fun j=>∀i,∀hi:i<l.length,i<j→(l[i]==n)=false) (fun j=>[(0,LI l),(1,.i n),(5,.i j)]) (fun _=>[]) rfl (by simp) (by simp) (by simp) (by simp) (by simp) ?_;intro j hj hI ih;repeat first|(refine r_ ?_;simp)|refine q_ ?_
 refine Qb rfl (fun z7=> ?_) (fun z8=> ?_)
 ·have z1:j<l.length:=by simpa using z7
  have hw:IntKind.i64.wrap ((j:Int)+1)=j+1:=wrap_i64 _ (by omega) (by omega);repeat first|(refine r_ ?_;simp[z1])|refine q_ ?_
  refine Qb rfl (fun h=> ?_) (fun h=> ?_)
  ·repeat first|(refine r_ ?_;simp)|refine q_ ?_
   rw[d1i,Uw (f:=fun m:Int=>m==n) z1 h hI,if_neg (by omega)]
  ·repeat first|(refine r_ ?_;simp[hw])|refine q_ ?_
   refine Qq _ (ih z1 (fun i hi za=> ?_)) rfl (by simp) ?_ (by simp) (by simp)
   ·by_cases e:i=j
    ·subst e;exact h
    ·exact hI i hi (by omega)
   ·simp
 ·have z6:j=l.length:=by simp at z8;omega
  subst z6;repeat first|(refine r_ ?_;simp)|refine q_ ?_
  rw[d1i,Tt (f:=fun m:Int=>m==n) hI];rfl
theorem Zu(l:List Nat)(c:Nat):Db (fun m:Int=>m==(c:Int)) (Ed l)=match l.findIdx? fun d=>decide (d=c)with|some i=>(i:Int)|none=> -1:=by
 have e:(Ed l).findIdx? (fun m:Int=>m==(c:Int))=l.findIdx? fun d=>decide (d=c):=by
  rw[tg]
  congr 1
  funext x;simp only[Function.comp];rw[xU];simp;omega
 unfold Db;rw[e];cases l.findIdx? fun d=>decide (d=c)<;>rfl
theorem f1k(l:List Nat)(c:Nat):d1i (Ed l) c=(q03 l c:Nat):=by
 unfold d1i q03;rw[Zu];cases l.findIdx? fun d=>decide (d=c)with
 |none=>rfl
 |some i=>simp;omega
theorem w0h{l:List Nat}{c:Nat}(h:c∈l):Db (fun m:Int=>m==(c:Int)) (Ed l)=(Jx l c:Nat):=by
 rw[Zu];unfold Jx;cases hf:l.findIdx? fun d=>decide (d=c)with
 |none=>rw[wL]at hf;have:=hf c h;simp at this
 |some i=>rfl
theorem x13{l:List Nat}{c:Nat}(h:c∉l):Db (fun m:Int=>m==(c:Int)) (Ed l)= -1:=by
 rw[Zu];cases hf:l.findIdx? fun d=>decide (d=c)with
 |none=>rfl
 |some i=>rw[xA]at hf;obtain⟨h1,h2,_⟩:=hf;exact absurd (by have:=zK h1;rwa [show l[i]=c by simpa using h2]at this) h
end Go.Abs
namespace Go.Abs
open Go Go.Proofs Go.Maps Go.RowKit
def kvO(o:List Nat):List (AV×AV):=o.zipIdx.map fun x=>(AV.i (x.1:Nat),AV.i (x.2:Nat))
def mpO(o:List Nat):AObj:= .mp (kvO o)
theorem Mc{o:List Nat}{j:Nat}{p:AV×AV}(h:(kvO o)[j]? =some p):∃c,o[j]? =some c∧p=(AV.i (c:Nat),AV.i (j:Nat)):=by unfold kvO at h;rw[zX,uY]at h;obtain⟨x,hx,rfl⟩:=zU.1 h;obtain⟨c,hc,rfl⟩:=zU.1 hx;exact⟨c,hc,by simp⟩
theorem w1x(o:List Nat)(c:Nat):kvO (o++[c])=kvO o++[(AV.i (c:Nat),AV.i (o.length:Nat))]:=by unfold kvO;rw[List.zipIdx_append,yF];simp
theorem j15{o:List Nat}{p:AV×AV}(h:p∈kvO o):∃c∈o,p.1=AV.i (c:Nat):=by obtain⟨j,hj⟩:=yK.1 h;obtain⟨c,hc,rfl⟩:=Mc hj;exact⟨c,zJ hc,rfl⟩
theorem q1y{o:List Nat}(hb:∀c∈o,c≤1000000):∀p∈kvO o,isKey Tryz.prog 3 p.1:=fun p hp=>by obtain⟨c,hc,e⟩:=j15 hp;rw[e];exact Ya ⟨by omega,by have:=hb c hc;omega⟩
section
variable {nt k:Nat} {S:AS} {ops:Array Oper} {o:Oper} {R:AS→Prop}
theorem Ny {wr:Bool} (hw:Q7 ops S o=some true) (hd:W7 nt o=true) {x ix:Operand} (ho:o.op= .lookup 192 x ix true) {id:Nat} (hx:rho S.sl x=some (.mref id)) {c:Nat} (z6:rho S.sl ix=some (.i (c:Nat))) {l:List Nat} (z7:S.hp[id]? =some (mpO l)) (hn:l.Nodup) (hb:∀c∈l,c≤1000000) (hc:c≤1000000)
  (hR:R (S.putD o.dst (.tup [.i ((if c∈l then Jx l c else 0:Nat)),.bool (decide (c∈l))]))):Wv Tryz.prog nt k wr ops o S R:=by
 refine Y2 tOk hw hd ho y2r rfl T3 Sb hx z6 z7 (Ya ⟨by omega,by omega⟩) (q1y hb) (z:= .i 0) rfl (fun j p hp he=> ?_) (fun z8=> ?_)
 ·obtain⟨c',z1,rfl⟩:=Mc hp;have za:c'=c:=by simp at he;omega
  subst za;have hm:=zJ z1;rw[if_pos hm,q18 hn z1]at hR;simpa[hm]using hR
 ·have hm:c∉l:=fun h=>by
   obtain⟨j,hj⟩:=yK.1 h;have zb:=Rc hj;have:(kvO l)[j]? =some (AV.i (c:Nat),AV.i (j:Nat)):=by unfold kvO;rw[zX,uY,hj];simp
   exact z8 _ (zJ this) rfl
  rw[if_neg hm]at hR;simpa[hm]using hR
theorem x0d (hw:Q7 ops S o=some true) (hd:W7 nt o=true) {x ix y:Operand} (ho:o.op= .mapUpdate 192 x ix y) {id:Nat} (hx:rho S.sl x=some (.mref id)) {c:Nat} (z1:rho S.sl ix=some (.i (c:Nat))) {l:List Nat} (hy:rho S.sl y=some (.i (l.length:Nat))) (z6:S.hp[id]? =some (mpO l)) (hb:∀c∈l,c≤1000000) (hc:c≤1000000) (hn:c∉l)
  (hR:R (({ S with hp:=S.hp.set id (mpO (l++[c])) }:AS).putD o.dst (.tup []))):Wv Tryz.prog nt k true ops o S R:=by
 refine T1 tOk hw hd ho y2r rfl Sb hx z1 hy (by simp[AV.pure]) z6 (Ya ⟨by omega,by omega⟩) (q1y hb) (fun j p hp he=> ?_) (fun za=> ?_)
 ·obtain⟨c',z7,rfl⟩:=Mc hp;have z8:c'=c:=by simp at he;omega
  subst z8;exact absurd (zJ z7) hn
 ·have:mpO (l++[c])= .mp (kvO l++[(AV.i (c:Nat),AV.i (l.length:Nat))]):=by unfold mpO;rw[w1x]
  rw[this]at hR;exact hR
theorem u0g (hw:Q7 ops S o=some true) (hd:W7 nt o=true) {x ix y:Operand} (ho:o.op= .insert 192 x ix y) {id:Nat} (hx:rho S.sl x=some (.mref id)) {c:Nat} (z1:rho S.sl ix=some (.i (c:Nat))) (hy:rho S.sl y=some (.i 0)) (z6:S.hp[id]? =some (.mp [])) (hc:c≤1000000)
  (hR:R (({ S with hp:=S.hp.set id (mpO [c]) }:AS).putD o.dst (.tup []))):Wv Tryz.prog nt k true ops o S R:=by
 refine Vv tOk hw hd ho y2r rfl Sb hx z1 hy (by simp[AV.pure]) z6 (Ya ⟨by omega,by omega⟩) (fun p hp=>by cases hp) (fun j p hp he=>by cases hp) (fun z7=> ?_);exact hR
end
end Go.Abs
/-
 DERIVED:THE SHELF's CONTRACTS AT THIS DUMP,IN PLAIN WORDS (tools/lay-plain.mjs out of 'TryzShelf.lean',which tools/lay-shelf.mjs wrote):THE SAME DECLARATIONS UNDER THE SAME NAMES:'import','namespace','open','def','theorem' AND NOTHING ELSE:no command of the shelf's:FOR A HAND-IN. Each laying:the table of numbers ('.._ren') and one theorem,a field a fact of the dump's own or the kernel's comparison;each contract:ONE APPLICATION.
-/
namespace Go.Proofs
open Go.Shelf
def Tryz.sortMv_ren:Go.Shelf.Ren:=⟨fun|6=>186|15=>199|14=>203|28=>216|29=>217|20=>227|21=>228|22=>229|23=>230|24=>231|25=>232|26=>233|27=>234|46=>247|47=>236|48=>237|49=>248|50=>249|57=>256|n=>n,fun|22=>23|24=>78|25=>243|3=>3|39=>213|0=>0|53=>247|55=>250|4=>4|46=>263|45=>262|50=>134|5=>5|9=>9|66=>281|70=>285|76=>296|77=>297|n=>n,fun|n=>n⟩
theorem Tryz.sortMv:Go.Proofs.SlLaysF0.n6 Tryz.prog Tryz.sortMv_ren:={
 mixed:=by kernel_rfl
 f6:=⟨Tryz.f186.name,by decide,Tryz.func186.trans (congrArg some (by kernel_rfl))⟩
 f14:=⟨Tryz.f203.name,by decide,Tryz.func203.trans (congrArg some (by kernel_rfl))⟩
 f15:=Tryz.func199.trans (congrArg some (by kernel_rfl))
 f20:=⟨Tryz.f227.name,by decide,Tryz.func227.trans (congrArg some (by kernel_rfl))⟩
 f21:=⟨Tryz.f228.name,by decide,Tryz.func228.trans (congrArg some (by kernel_rfl))⟩
 f22:=⟨Tryz.f229.name,by decide,Tryz.func229.trans (congrArg some (by kernel_rfl))⟩
 f23:=⟨Tryz.f230.name,by decide,Tryz.func230.trans (congrArg some (by kernel_rfl))⟩
 f24:=⟨Tryz.f231.name,by decide,Tryz.func231.trans (congrArg some (by kernel_rfl))⟩
 f25:=⟨Tryz.f232.name,by decide,Tryz.func232.trans (congrArg some (by kernel_rfl))⟩
 f26:=⟨Tryz.f233.name,by decide,Tryz.func233.trans (congrArg some (by kernel_rfl))⟩
 f27:=⟨Tryz.f234.name,by decide,Tryz.func234.trans (congrArg some (by kernel_rfl))⟩
 f28:=Tryz.func216.trans (congrArg some (by kernel_rfl))
 f29:=Tryz.func217.trans (congrArg some (by kernel_rfl))
 f46:=⟨Tryz.f247.name,by decide,Tryz.func247.trans (congrArg some (by kernel_rfl))⟩
 f47:=Tryz.func236.trans (congrArg some (by kernel_rfl))
 f48:=Tryz.func237.trans (congrArg some (by kernel_rfl))
 f49:=⟨Tryz.f248.name,by decide,Tryz.func248.trans (congrArg some (by kernel_rfl))⟩
 f50:=⟨Tryz.f249.name,by decide,Tryz.func249.trans (congrArg some (by kernel_rfl))⟩
 f57:=⟨Tryz.f256.name,by decide,Tryz.func256.trans (congrArg some (by kernel_rfl))⟩
 t0:=Tryz.underlying0
 a0:=Tryz.isAgg0
 z0:=Tryz.sizeOf0
 v0:=Tryz.zeroValue0
 t3:=Tryz.underlying3
 a3:=Tryz.isAgg3
 z3:=Tryz.sizeOf3
 v3:=Tryz.zeroValue3
 t4:=Tryz.underlying4
 a4:=Tryz.isAgg4
 z4:=Tryz.sizeOf4
 v4:=Tryz.zeroValue4
 t5:=Tryz.underlying5
 a5:=Tryz.isAgg5
 z5:=Tryz.sizeOf5
 v5:=Tryz.zeroValue5
 t9:=Tryz.underlying9
 a9:=Tryz.isAgg9
 z9:=Tryz.sizeOf9
 v9:=Tryz.zeroValue9
 t22:=Tryz.underlying23
 a22:=Tryz.isAgg23
 z22:=Tryz.sizeOf23
 v22:=Tryz.zeroValue23
 t25:=Tryz.underlying243
 a25:=Tryz.isAgg243
 z25:=Tryz.sizeOf243
 v25:=Tryz.zeroValue243
 t39:=Tryz.underlying213
 a39:=Tryz.isAgg213
 z39:=Tryz.sizeOf213
 v39:=Tryz.zeroValue213
 t45:=Tryz.underlying262
 a45:=Tryz.isAgg262
 z45:=Tryz.sizeOf262
 v45:=Tryz.zeroValue262
 t46:=Tryz.underlying263
 a46:=Tryz.isAgg263
 z46:=Tryz.sizeOf263
 v46:=Tryz.zeroValue263
 t50:=Tryz.underlying134
 a50:=Tryz.isAgg134
 z50:=Tryz.sizeOf134
 v50:=Tryz.zeroValue134
 t53:=Tryz.underlying247
 a53:=Tryz.isAgg247
 z53:=Tryz.sizeOf247
 v53:=Tryz.zeroValue247
 t55:=Tryz.underlying250
 a55:=Tryz.isAgg250
 z55:=Tryz.sizeOf250
 v55:=Tryz.zeroValue250
 t66:=Tryz.underlying281
 a66:=Tryz.isAgg281
 z66:=Tryz.sizeOf281
 v66:=Tryz.zeroValue281
 t70:=Tryz.underlying285
 a70:=Tryz.isAgg285
 z70:=Tryz.sizeOf285
 v70:=Tryz.zeroValue285
 t76:=Tryz.underlying296
 a76:=Tryz.isAgg296
 z76:=Tryz.sizeOf296
 v76:=Tryz.zeroValue296
 t77:=Tryz.underlying297
 a77:=Tryz.isAgg297
 z77:=Tryz.sizeOf297
 v77:=Tryz.zeroValue297 }
end Go.Proofs
namespace Go.Abs
open Go Go.Proofs Go.RowKit Go.Shelf Go.Lib Go.Sort
def ltM(m k:Mv):Bool:=J1 (kyM m) (kyM k)
def z2h(m k:Mv):Int:=if ltM m k=true then -1 else 1
def gdM(T:Nat)(m:Mv):Prop:=PWf T m.on∧Wd m.on=false∧∀s∈m.on,s.length≤1000000000
attribute [local irreducible] Ev Qw Qm Kz
theorem k1r(T:Nat)(hT:T≤16)(m k:Mv)(hm:gdM T m)(hk:gdM T k):PC Tryz.prog 187 [encMv m,encMv k] (fun r=>r= .i (z2h m k)):=by
 refine Ql tOk Tryz.func187 rfl Tryz.results187 rfl (by simp[Tryz.ntmps187]) ?_;rw[Tryz.ntmps187];simp only[Qg];simp only[encMv];have h1:=q0i hm.1;have h2:=q0i hk.1;rw[hm.2.1]at h1;rw[hk.2.1]at h2;have h3:=g09 m.on k.on;have hR:z2h m k=if Kz (Qm m.on) (Qm k.on)=true then -1 else 1:=by rw[h3];rfl
 rw[hR];repeat first|(refine r_ ?_;simp)|refine q_ ?_
 refine Qf rfl rfl (by simp) (P8 T m.on m.on hm.1 hm.1 hm.2.2 hm.2.2 (by omega)) rfl ?_;rintro _ rfl;simp;rw[h1];simp[Mp];repeat first|(refine r_ ?_;simp)|refine q_ ?_
 refine Qf rfl rfl (by simp) (P8 T k.on k.on hk.1 hk.1 hk.2.2 hk.2.2 (by omega)) rfl ?_;rintro _ rfl;simp;rw[h2];simp[Mp];repeat first|(refine r_ ?_;simp)|refine q_ ?_
 refine Qf rfl rfl (by simp) (L0 (Qm m.on) (Qm k.on)) rfl ?_;rintro _ rfl;simp;cases hb:Kz (Qm m.on) (Qm k.on)with
 |true=>refine Qk rfl ?_;repeat (first|(refine r_ ?_;simp)|refine q_ ?_)
 |false=>refine Qk rfl ?_;repeat first|(refine r_ ?_;simp)|refine q_ ?_
theorem d0w{w:World}{I:Nat→Prop}{v:Value}{k:IntKind}{n:Int}(h:PVR w I v (.int k n)):v.oneCell'=true:=by cases h;rfl
theorem v1b{w:World}{I:Nat→Prop}{v:Value}{xs:List AV}(h:PVR w I v (.list xs)):v.oneCell'=true:=by cases h;rfl
def GdE(T:Nat)(w:World)(I:Nat→Prop)(x:List Value×Mv):Prop:=x.1.length=3∧(∀v∈x.1,v.oneCell'=true)∧gdM T x.2∧∀(j:Nat) (y:AV),(encMv x.2).cells[j]? =some y→∃v,x.1[j]? =some v∧PVR w I v y
abbrev MvE (T:Nat) (w:World) (I:Nat→Prop):={ x:List Value×Mv // GdE T w I x }
def k0n{T:Nat}{w:World}{I:Nat→Prop}(x:MvE T w I):List Value:=x.1.1
def q2i{T:Nat}{w:World}{I:Nat→Prop}(x y:MvE T w I):Int:=z2h x.1.2 y.1.2
theorem ltE{T:Nat}{w:World}{I:Nat→Prop}(x y:MvE T w I):ltOf q2i x y=ltM x.1.2 y.1.2:=by unfold ltOf q2i z2h;cases ltM x.1.2 y.1.2<;>rfl
theorem v2a{T:Nat}{w:World}{I:Nat→Prop}:SWO (ltOf (q2i (T:=T) (w:=w) (I:=I))) where
 irrefl x:=by rw[ltE,←uC];intro h;exact Ii.irr ((R6 _ _).1 h)
 trans x y z h1 h2:=by rw[ltE]at *;exact(R6 _ _).2 (((R6 _ _).1 h1).trans ((R6 _ _).1 h2))
 ntrans x y z h1 h2:=by
  rw[ltE]at *;rw[←uC]at *;intro h
  have h3:=(R6 _ _).1 h;have h4:¬Ii (kyM x.1.2).1 (kyM x.1.2).2 (kyM y.1.2).1 (kyM y.1.2).2:=fun k=>h1 ((R6 _ _).2 k);have h5:¬Ii (kyM y.1.2).1 (kyM y.1.2).2 (kyM z.1.2).1 (kyM z.1.2).2:=fun k=>h2 ((R6 _ _).2 k);unfold Ii at *;omega
theorem w1r(m:Mv):(encMv m).cells=[.i m.src,.i m.dst,.list (m.on.map encL)]:=rfl
theorem Fo{T:Nat}{w:World}{I:Nat→Prop}{l:List Mv}{F:Array Value}(hR:RowW w I 3 (l.map encMv) F)(hg:∀m∈l,gdM T m){i:Nat}(hi:i<l.length):GdE T w I ([F[i * 3]!,F[i * 3+1]!,F[i * 3+2]!],l[i]):=by
 have hx:(l.map encMv)[i]? =some (encMv l[i]):=by simp[hi]
 have c0:=hR.cell i _ hx 0 _ rfl;have c1:=hR.cell i _ hx 1 _ rfl;have c2:=hR.cell i _ hx 2 _ rfl;rw[Nat.add_zero]at c0;refine⟨rfl,fun v hv=> ?_,hg _ (zK hi),fun j y hy=> ?_⟩
 ·simp only[yE,List.not_mem_nil,or_false]at hv;rcases hv with rfl|rfl|rfl
  ·exact d0w c0
  ·exact d0w c1
  ·exact v1b c2
 ·rw[w1r]at hy
  match j,hy with
  |0,hy=>simp at hy;subst hy;exact⟨_,rfl,c0⟩
  |1,hy=>simp at hy;subst hy;exact⟨_,rfl,c1⟩
  |2,hy=>simp at hy;subst hy;exact⟨_,rfl,c2⟩
theorem d01(T:Nat)(hT:T≤16)(H:List AObj)(p:Nat)(l:List Mv)(hp:H[p]? =some (.arr 78 3 (l.map encMv)))(hl:l.length≤1000000)(hg:∀m∈l,gdM T m):
  FC Tryz.prog 186 [.sl p 3 0 l.length,.fn (.func 187) [] []] H
   (fun r H'=>r= .tup []∧∃l':List Mv,l'.Perm l∧l'.Pairwise (fun x y=>ltM y x=false)∧H'=H.set p (.arr 78 3 (l'.map encMv))):=by
 refine(j14 (xs:=l.map encMv) (Tw Tryz.func186 rfl rfl) (by simp) hp [.func (.func 187) #[] #[]] (fun w I m vs a b=>Ma _ w I m _ vs a b) (fun zc=>∃l':List Mv,l'.Perm l∧l'.Pairwise (fun x y=>ltM y x=false)∧zc=l'.map encMv) ?_ ?_).mono ?_
 ·intro w I b cap F hE hI zg hR hH hb hc;have zh:F.size=l.length * 3:=by have:=hR.size;simpa using this
  by_cases z6:l=[]
  ·subst z6;refine Calls.mono (AnyF.slices_SortFunc_none Tryz.sortMv (some ⟨b,0,none⟩) cap _ w) ?_;rintro e w' ⟨rfl,rfl⟩;refine⟨rfl,[],F,0,#[],⟨[],.refl _,.nil,rfl⟩,rfl,hR,?_⟩;rw[grow_empty];exact(putRow_self id w' b 0 F hH).symm
  ·have z8:0<l.length:=List.length_pos_iff.2 z6;have eg:∀args w,(callFunc 187 args).run Tryz.prog w= .ok (.enter 187 args) w:=enters_of Tryz.func187 (by kernel_rfl) rfl;let _:Inhabited (MvE T w I):=⟨⟨_,Fo hR hg z8⟩⟩
   obtain⟨dl,za⟩:∃dl:List (MvE T w I),dl=List.ofFn fun i:Fin l.length=>(⟨_,Fo hR hg i.2⟩:MvE T w I):=⟨_,rfl⟩
   have z7:dl.length=l.length:=by rw[za];simp
   have zd:∀i (h:i<l.length),dl[i]? =some ⟨_,Fo hR hg h⟩:=fun i h=>by rw[za];simp[h]
   have zi:dl.map (fun x=>x.1.2)=l:=by
    refine xO fun i=> ?_;rw[zX];by_cases h:i<l.length
    ·rw[zd i h,zI h];rfl
    ·rw[yZ (by omega),yZ (by omega)];rfl
   clear za;have zj:flatK k0n 3 dl.toArray=F:=by
    refine ext_get! (by simp[z7,zh]) fun t ht=> ?_;have zk:t<dl.length * 3:=by simpa using ht
    rw[get_flatK _ _ _ _ (by simpa using zk)];have hi:t / 3<l.length:=by omega
    have e1:dl.toArray[t / 3]! =⟨_,Fo hR hg hi⟩:=by rw[getElem!_pos dl.toArray _ (by simp;omega)];have:=zd _ hi;obtain⟨h1,h2⟩:=zE.1 this;simpa using h2
    rw[e1];simp only[k0n];have hm:t % 3=0∨t % 3=1∨t % 3=2:=by omega
    rcases hm with h|h|h<;>rw[h]
    ·have:t / 3 * 3=t:=by omega
     simp[this]
    ·have:t / 3 * 3+1=t:=by omega
     simp[this]
    ·have:t / 3 * 3+2=t:=by omega
     simp[this]
   have zl:HoldsK k0n 3 w b 0 dl.toArray:=by unfold HoldsK;rw[zj];exact hH
   have zb:CmpLays Tryz.prog 187 #[] k0n 3 (q2i (T:=T) (w:=w) (I:=I)) b 0 dl.toArray.size w:=fun q os dk hs x y=>by
    have hW:∀c,I c→(sortWorldK k0n 3 w b 0 q dk os).heap[c]? =w.heap[c]? :=fun c ze=>by have zm:=hI c ze;have zn:b≠c:=fun e=>zg (e▸ze);simp only[sortWorldK,grow,putRowK,putRow,mapBlock,Sort.ahead];rw[Array.getElem?_append_left (by simpa using zm),Array.getElem?_modify,if_neg zn]
    have zf:∀z:MvE T w I,PVR w I (.agg (k0n z).toArray) (encMv z.1.2):=fun z=>by
     refine .agg _ _ (by simp[k0n,z.2.1]) fun i v x' hv z1=> ?_;obtain⟨v',h1,h2⟩:=z.2.2.2.2 i x' z1;have:v=v':=by simp only[k0n,List.getElem?_toArray]at hv;rw[hv]at h1;exact Option.some.inj h1
     rw[this];exact h2
    refine(k1r T hT x.1.2 y.1.2 x.2.2.2.1 y.2.2.2.1).laid hE hI hW (by simp) fun i v x' hv z1=> ?_
    match i,hv,z1 with
    |0,hv,z1=>simp at hv z1;subst hv z1;exact zf x
    |1,hv,z1=>simp at hv z1;subst hv z1;exact zf y
   have:=AnyQ.slices_SortFunc Tryz.sortMv 3 Tryz.isAgg78 Tryz.sizeOf78 k0n (fun x=>x.2.1) (fun x v hv=>x.2.2.1 v hv) q2i v2a 187 #[] b 0 cap dl.toArray w eg zb zl hb (by simp;omega);rw[show(dl.toArray).size=l.length by simp[z7]]at this;refine Calls.mono this ?_;rintro e w' ⟨rfl,d',n,os,h1,h2,rfl⟩;obtain⟨s1,_,s3⟩:=h1;have hs:d'.toList.length=l.length:=by simpa[z7]using s1
   refine⟨rfl,(d'.toList.map (fun x=>x.1.2)).map encMv,flatK k0n 3 d',n,os,⟨d'.toList.map (fun x=>x.1.2),?_,?_,rfl⟩,by simp[hs],⟨by simp,fun x hx=> ?_,fun i x hx j y hy=> ?_⟩,rfl⟩
   ·rw[show d'.extract 0 l.length=d' by simp[←hs],show dl.toArray.extract 0 l.length=dl.toArray by simp[←z7]]at s3;have:=(s3:d'.toList.Perm dl).map (fun x=>x.1.2)
    rwa [zi]at this
   ·refine wJ.2 (yR.2 fun i j hi hj zo=> ?_);have:=h2 i j (wn _) zo (by omega);rw[ltE,getElem!_pos d' i (by simpa using hi),getElem!_pos d' j (by simpa using hj)]at this;simpa using this
   ·obtain⟨z,_,rfl⟩:=zR.1 hx;rfl
   ·rw[zX,zX]at hx;obtain⟨z0,zp,rfl⟩:=zU.1 hx;obtain⟨z,hz,rfl⟩:=zU.1 zp;obtain⟨hi,rfl⟩:=zE.1 hz;have hj:j<3:=(zE.1 hy).1;have zq:i<d'.size:=by simpa using hi
    rw[get_flatK _ _ _ _ (by omega)];rw[show(i * 3+j) / 3=i by omega,show(i * 3+j) % 3=j by omega];rw[getElem!_pos d' i zq];obtain⟨v,h1,h2⟩:=d'[i].2.2.2.2 j y (by simpa using hy);have:(k0n d'[i])[j]! =v:=by unfold k0n;rw[List.getElem!_eq_getElem?_getD,h1];rfl
    rw[this];exact h2
 ·rintro h;have z6:l=[]:=by
   cases l with
   |nil=>rfl
   |cons x r=>simp at h
  subst z6;exact⟨⟨[],.refl _,.nil,rfl⟩,fun w=>AnyF.slices_SortFunc_none Tryz.sortMv none 0 _ w⟩
 ·rintro r H' ⟨rfl,zc,⟨l',h1,h2,rfl⟩,rfl⟩;exact⟨rfl,l',h1,h2,rfl⟩
end Go.Abs
namespace Go.Abs
theorem w20{T B:Nat}{l:List Prd}(h:∀i,(Qv l i).length≤B):∀s∈U5 T l,s.length≤B:=fun s hs=>by unfold U5 at hs;obtain⟨i,_,rfl⟩:=zR.1 hs;exact yO (z07 _) (h i)
end Go.Abs
namespace Go.Abs
open Go Go.Proofs Go.Maps Go.RowKit
theorem y0g{l:List Nat}{i:Nat}(h:i<l.length):l.getD i 0=l[i]:=by simp[yV,h]
attribute [local irreducible] Wk Ev Yj U5 v0q Z0 L9 kvG
theorem Li{α:Type}:∀(l:List α) (i:Nat) (x:α),l[i]? =some x→l.Perm (x::l.eraseIdx i)
 |[],i,x,h=>by simp at h
 |y::l,0,x,h=>by simp at h;subst h;simp
 |y::l,i+1,x,h=>by simp only[List.getElem?_cons_succ]at h;exact((Li l i x h).cons y).trans (List.Perm.swap x y _)
theorem z0o{a:Aut}(ha:OkA a)(cl:List Nat)(s:Int)(t:Nat):(O9 a cl s t).length≤2048:=by unfold O9;rw[zZ];exact yO (xM _ _) (yO (Ft a s) ha.mvs)
theorem v1p(ks:List Nat)(t:Nat):(Jy ks t).length≤ks.length+1:=by
 unfold Jy;split
 ·omega
 ·simp
theorem u19(cl:List Nat):∀(l:List Mv) (ks:List Nat),(l.foldl (fun ks m=>Jy ks (clD cl m)) ks).length≤ks.length+l.length
 |[],ks=>by simp
 |m::l,ks=>by have h1:=u19 cl l (Jy ks (clD cl m));have h2:=v1p ks (clD cl m);simp only[xZ,yS];omega
theorem Vu{a:Aut}(ha:OkA a)(cl:List Nat)(s:Int)(t i:Nat):(Qv (O9 a cl s t) i).length≤1000000:=by
 have h1:∀p∈O9 a cl s t,PCk a.types.toNat p:=fun p hp=>by obtain⟨m,hm,rfl⟩:=zR.1 hp;exact(ha.mv m (Rm.1 (xL.1 hm).1).1).on
 have h2:=z0o ha cl s t;have:=Uo h1 i;omega
theorem d0m{x y:Mv}(h:ltM y x=false)(z1:kyM x≠kyM y):ltG kyM x y:=by
 unfold ltG;have h1:¬Ii (kyM y).1 (kyM y).2 (kyM x).1 (kyM x).2:=fun k=>by have:ltM y x=true:=(R6 _ _).2 k;rw[h]at this;cases this
 have h2:¬((kyM x).1=(kyM y).1∧(kyM x).2=(kyM y).2):=fun k=>z1 (uv k.1 k.2);unfold Ii at *;omega
theorem j0t(a:Aut)(ha:Dfa a)(cl:List Nat)(x6:cl.length=a.fin.length)(y3:∀c∈cl,c≤1000000)(s:Int)(hs:inS a s):PC Tryz.prog 138 [R3 a,LI (Ed cl),.i s] (fun r=>r= .list ((v0q a cl s).map encMv)):=by
 refine Ql tOk Tryz.func138 rfl Tryz.results138 rfl (by simp[Tryz.ntmps138]) ?_;rw[Tryz.ntmps138];simp only[Qg];simp only[R3,We];have yi:=ha.ok.fin;have x7:=Ft a s;have x8:=ha.ok.mvs;have y4:=fun m (hm:m∈Wk a s)=>ha.ok.mv m (Rm.1 hm).1;have zo:=Z3 hs;have x9:=Sg hs;have yj:=hs.1;have yk:=hs.2;have yl:(Yj a).length=a.fin.length:=by unfold Yj;simp
 simp only[Yi]at zo;have zu:∀hh,(Yj a)[s.toNat]'hh= .list ((Wk a s).map encMv):=fun hh=>by rw[zI hh]at zo;exact Option.some.inj zo
 repeat first|(refine r_ ?_;simp)|refine q_ ?_
 refine Rz rfl rfl rfl ?_;simp;repeat first|(refine r_ ?_;simp[zo,zu,yj,yk,yl])|refine q_ ?_
 refine v1w 1 rfl ?_;simp;obtain⟨K,hK⟩:∃K,K=[AObj.vars [.i a.types,.list (a.fin.map .bool),.list (a.mv.map encMv),.list (Yj a)]]:=⟨_,rfl⟩
 have ym:K[0]? =some (.vars [.i a.types,.list (a.fin.map .bool),.list (a.mv.map encMv),.list (Yj a)]):=by rw[hK];rfl
 refine Q4 fun Z hZ=> ?_;have zG:MG K 1 (L9 a cl s 0) (Z0 a cl s 0) (fun _=>0) Z:=by rw[c0b];refine⟨by rw[hZ];unfold kvG;rfl,by simp,by simp,by simp,by rw[hK];simp,by simp,fun j hj=> ?_⟩;rw[hK]at hj;simp at hj;subst hj;rw[hZ,hK];rfl
 clear hZ;refine Qp (Qc (sl':=[(1,LI (Ed cl)),(3,.vptr 0 0),(6,.nils),(7,.mref 1),(18,.list ((Wk a s).map encMv)),(19,.i (Wk a s).length),(20,.i (0:Nat))]) ?_ (by simp));refine Qo (P:=Tryz.prog) (F:=fun(u:Nat×(Nat→Nat)×List AObj)=>⟨[(1,LI (Ed cl)),(3,.vptr 0 0),(6,.nils),(7,.mref 1),(18,.list ((Wk a s).map encMv)),(19,.i (Wk a s).length),(20,.i u.1)],u.2.2⟩)
  (fun u=>u.1≤(Wk a s).length∧MG K 1 (L9 a cl s u.1) (Z0 a cl s u.1) u.2.1 u.2.2) (fun u=>(Wk a s).length - u.1) ?_ (0,fun _=>0,Z) ⟨wn _,zG⟩
 clear zG;clear Z;rintro⟨j,L,G⟩ ⟨hj,gG⟩ ih;simp only at hj gG ih ⊢;have za:=g1o a cl s j;have zp:∀t∈L9 a cl s j,t≤1000000:=fun t ht=>by
  obtain⟨m,hm,rfl⟩:=Xx.1 ht;unfold clD;have:=xK hm;by_cases h:m.dst.toNat<cl.length
  ·rw[y0g h];exact y3 _ (zK h)
  ·simp[yV,h]
 have yn:=fun t (h:t∉L9 a cl s j)=>v1t h;repeat first|(refine r_ ?_;simp)|refine q_ ?_
 refine Qb rfl (fun zv=> ?_) (fun yo=> ?_)
 ·have z7:j<(Wk a s).length:=by simpa using zv
  have hw:IntKind.i64.wrap ((j:Int)+1)=j+1:=wrap_i64 _ (by omega) (by omega);have zh:=f0a a cl s z7;have zq:=k0w a cl s z7;have y5:=y4 _ (zK z7);have y6:∀t,(Z0 a cl s j t).length≤j:=fun t=>by unfold Z0;rw[zZ];refine yO (xM _ _) ?_;rw[xN];omega
  have zf:=fun L' G'=>ih (j+1,L',G');simp only[zh,zq]at zf;clear zh zq;have y7:((Wk a s).map encMv)[j]? =some (encMv (Wk a s)[j]):=by simp[z7]
  have y8:∀hh,((Wk a s).map encMv)[j]'hh=encMv (Wk a s)[j]:=fun hh=>by simp
  generalize (Wk a s)[j]=m at *;generalize L9 a cl s j=ks at *;generalize Z0 a cl s j=gs at *;simp only[encMv]at y7 y8
  repeat first|(refine r_ ?_;simp[y7,y8,z7])|refine q_ ?_
  obtain⟨d,hd⟩:∃d:Nat,m.dst=d:=⟨m.dst.toNat,by have:=y5.dst.1;omega⟩
  have z8:d<cl.length:=by have:=y5.dst.2;omega
  have zw:clD cl m=cl[d]:=by unfold clD;rw[hd];exact y0g z8
  have zr:clD cl m≤1000000:=by rw[zw];exact y3 _ (zK z8)
  have yp:(Ed cl)[d]? =some ((clD cl m:Nat):Int):=by rw[zw];simp[z8]
  have yq:∀hh,(Ed cl)[d]'hh=((clD cl m:Nat):Int):=fun hh=>(zY hh).2 yp;rw[hd]at *;refine Q4 fun Y hY=> ?_
  have yG:MG K 1 ks gs L Y:=by rw[hY];exact gG.grow _
  have yx:Y[G.length]? =some (.vars [.i m.src,.i d,.list (m.on.map encL)]):=by rw[hY,zH (by simp)];simp
  clear hY gG;generalize G.length=x at *;clear G
  have xa:=y6 (clD cl m);have zx:=yn (clD cl m);have yM:=yG.map;have zi:=fun np H'=>yG.put (t:=clD cl m) (p:=m.on) (np:=np) (H':=H');have yr:=yG.leaf (clD cl m);have zy:=yG.ne (clD cl m);generalize clD cl m=t at *
  have zb:cl[d]=t:=zw.symm;have zc:∀E,(Y++E)[x]? =some (.vars [.i m.src,.i d,.list (m.on.map encL)]):=fun E=>Qa yx E;have zd:∀E hh,(Y++E)[x]'hh= .vars [.i m.src,.i d,.list (m.on.map encL)]:=fun E hh=>(zY hh).2 (zc E);by_cases htk:t∈ks
  ·have ze:=yr htk;have y9:=zy htk;have yt:L t≠x:=fun e=>by rw[e,yx]at ze;simp at ze
   have ya:=Qh ze;have z6:((gs t).map encP).length=(gs t).length:=by simp
   generalize yu:(gs t).map encP=ge at *
   have zt:∀E,(Y.set (L t) .dead++E)[x]? =some (.vars [.i m.src,.i d,.list (m.on.map encL)]):=fun E=>Qa (Qd yt yx _) E;have zz:∀E hh,(Y.set (L t) .dead++E)[x]'hh= .vars [.i m.src,.i d,.list (m.on.map encL)]:=fun E hh=>(zY hh).2 (zt E);refine Yg (P:=Tryz.prog) tOk mixed [16,17] (.val 0 (.val 1 (.val 2 (.val 6 (.val 7 (.val 8 (.val 9 (.val 10 (.val 11 (.val 13 (.val 14 (.three 3 (.val 4 (.three 5 (.two 12 (.one 15 (.one 16 (.one 17 (.done)))) 15 (.one 12 (.one 16 (.one 17 (.done))))) 12 (.two 5 (.one 15 (.one 16 (.one 17 (.done)))) 15 (.two 5 (.one 16 (.one 17 (.done))) 16 (.val 5 (.one 17 (.done))))) 15 (.two 5 (.one 12 (.one 16 (.one 17 (.done)))) 12 (.two 5 (.one 16 (.one 17 (.done))) 16 (.val 5 (.one 17 (.done))))))) 12 (.two 3 (.val 4 (.two 5 (.one 15 (.one 16 (.one 17 (.done)))) 15 (.two 5 (.one 16 (.one 17 (.done))) 16 (.val 5 (.one 17 (.done)))))) 15 (.two 3 (.val 4 (.two 5 (.one 16 (.one 17 (.done))) 16 (.val 5 (.one 17 (.done))))) 16 (.val 3 (.val 4 (.val 5 (.one 17 (.done))))))) 15 (.two 3 (.val 4 (.two 5 (.one 12 (.one 16 (.one 17 (.done)))) 12 (.two 5 (.one 16 (.one 17 (.done))) 16 (.val 5 (.one 17 (.done)))))) 12 (.two 3 (.val 4 (.two 5 (.one 16 (.one 17 (.done))) 16 (.val 5 (.one 17 (.done))))) 16 (.val 3 (.val 4 (.val 5 (.one 17 (.done))))))))))))))))))) (fun S'=>∃np,MG K 1 (Jy ks t) (fun u=>if u=t then gs t++[m.on]else gs u) (fun u=>if u=t then np else L u) S'.hp∧look S'.sl 1=some (LI (Ed cl))∧look S'.sl 3=some (.vptr 0 0)∧look S'.sl 6=some .nils∧look S'.sl 7=some (.mref 1)∧look S'.sl 18=some (.list ((Wk a s).map encMv))∧look S'.sl 19=some (.i (Wk a s).length)∧look S'.sl 20=some (.i j)) rfl (by kernel_rfl) ?_ ?_
   ·simp[yx,zc,zd,zb,z8]
    repeat' (first
     |refine And.intro ?_ ?_
     |(refine Jw rfl rfl rfl rfl rfl (by first|exact yM|exact Qa yM _) zp zr ?_;rw[if_pos htk];simp[yx,zc,zd,zb,z8])
     |(refine Qe tOk rfl rfl T91 rfl T76 rfl (by decide) (by decide) rfl rfl rfl ?_;simp[Qa ze,Qi ze,z6,yx,zc,zd,zt,zz,zb,z8];refine⟨by simp[Wa,z6]<;>omega,?_⟩;simp[zt,zz,zb,z8])
     |(refine Qe tOk rfl rfl T91 rfl T76 rfl (by decide) (by decide) rfl rfl rfl ?_;simp[Qa ze,Qi ze,z6,yx,zc,zd,zt,zz,zb,z8];refine⟨by simp[Wa,z6]<;>omega,?_⟩))
    all_goals
     refine Lv rfl rfl rfl rfl rfl (np:=Y.length+1) (n:=(gs t).length+1) rfl (ks:=ks) (gs:=gs) (L:=L) (Qa (Qd y9 yM _) _) zp zr za zx m.on rfl ?_;simp;refine⟨Y.length+1,zi (Y.length+1) _ (by omega) (Qj (Qa (Qd y9 yM _) _) _) ?_ ?_⟩
     ·rw[zB (by have:=Qh yM;omega),zH (by simp),yF,yu];simp
     ·intro jj h1 h2 h3;rw[zB (Ne.symm h2),zF (by simpa using h1),zB (fun e=>h3 htk e.symm)]
   ·rintro⟨sl,E⟩ ⟨np,hE,s1,s3,s6,s7,s18,s19,s20⟩;simp only at hE s1 s3 s6 s7 s18 s19 s20;simp;refine Qs (sl':=[(1,LI (Ed cl)),(3,.vptr 0 0),(6,.nils),(7,.mref 1),(18,.list ((Wk a s).map encMv)),(19,.i (Wk a s).length),(20,.i j)]) ?_ (by simp[s1,s3,s6,s7,s18,s19,s20]);repeat first|(refine r_ ?_;simp[hw])|refine q_ ?_
    refine Qc (sl':=[(1,LI (Ed cl)),(3,.vptr 0 0),(6,.nils),(7,.mref 1),(18,.list ((Wk a s).map encMv)),(19,.i (Wk a s).length),(20,.i (j+1:Nat))]) ?_ (by simp);exact zf _ E ⟨by omega,hE⟩ (by omega)
  ·have yb:=zx htk;have z6:(gs t).length=0:=by rw[yb];rfl
   refine Yg (P:=Tryz.prog) tOk mixed [16,17] (.val 0 (.val 1 (.val 2 (.val 6 (.val 7 (.val 8 (.val 9 (.val 10 (.val 11 (.val 13 (.val 14 (.three 3 (.val 4 (.three 5 (.two 12 (.one 15 (.one 16 (.one 17 (.done)))) 15 (.one 12 (.one 16 (.one 17 (.done))))) 12 (.two 5 (.one 15 (.one 16 (.one 17 (.done)))) 15 (.two 5 (.one 16 (.one 17 (.done))) 16 (.val 5 (.one 17 (.done))))) 15 (.two 5 (.one 12 (.one 16 (.one 17 (.done)))) 12 (.two 5 (.one 16 (.one 17 (.done))) 16 (.val 5 (.one 17 (.done))))))) 12 (.two 3 (.val 4 (.two 5 (.one 15 (.one 16 (.one 17 (.done)))) 15 (.two 5 (.one 16 (.one 17 (.done))) 16 (.val 5 (.one 17 (.done)))))) 15 (.two 3 (.val 4 (.two 5 (.one 16 (.one 17 (.done))) 16 (.val 5 (.one 17 (.done))))) 16 (.val 3 (.val 4 (.val 5 (.one 17 (.done))))))) 15 (.two 3 (.val 4 (.two 5 (.one 12 (.one 16 (.one 17 (.done)))) 12 (.two 5 (.one 16 (.one 17 (.done))) 16 (.val 5 (.one 17 (.done)))))) 12 (.two 3 (.val 4 (.two 5 (.one 16 (.one 17 (.done))) 16 (.val 5 (.one 17 (.done))))) 16 (.val 3 (.val 4 (.val 5 (.one 17 (.done))))))))))))))))))) (fun S'=>∃np,MG K 1 (Jy ks t) (fun u=>if u=t then gs t++[m.on]else gs u) (fun u=>if u=t then np else L u) S'.hp∧look S'.sl 1=some (LI (Ed cl))∧look S'.sl 3=some (.vptr 0 0)∧look S'.sl 6=some .nils∧look S'.sl 7=some (.mref 1)∧look S'.sl 18=some (.list ((Wk a s).map encMv))∧look S'.sl 19=some (.i (Wk a s).length)∧look S'.sl 20=some (.i j)) rfl (by kernel_rfl) ?_ ?_
   ·simp[yx,zc,zd,zb,z8]
    repeat' (first
     |refine And.intro ?_ ?_
     |(refine Jw rfl rfl rfl rfl rfl (by first|exact yM|exact Qa yM _) zp zr ?_;rw[if_neg htk];simp[yx,zc,zd,zb,z8])
     |(refine Qe tOk rfl rfl T91 rfl T76 rfl (by decide) (by decide) rfl rfl rfl ?_;simp[yx,zc,zd,zb,z8];refine⟨by simp[Wa]<;>omega,?_⟩))
    all_goals
     refine Lv rfl rfl rfl rfl rfl (np:=Y.length+1) (n:=1) rfl (ks:=ks) (gs:=gs) (L:=L) (Qa yM _) zp zr za zx m.on (by rw[z6]) ?_;simp;refine⟨Y.length+1,zi (Y.length+1) _ (by omega) (Qj (Qa yM _) _) ?_ ?_⟩
     ·rw[zB (by have:=Qh yM;omega),zH (by simp),yF,yb];simp
     ·intro jj h1 h2 h3;rw[zB (Ne.symm h2),zF h1]
   ·rintro⟨sl,E⟩ ⟨np,hE,s1,s3,s6,s7,s18,s19,s20⟩;simp only at hE s1 s3 s6 s7 s18 s19 s20;simp;refine Qs (sl':=[(1,LI (Ed cl)),(3,.vptr 0 0),(6,.nils),(7,.mref 1),(18,.list ((Wk a s).map encMv)),(19,.i (Wk a s).length),(20,.i j)]) ?_ (by simp[s1,s3,s6,s7,s18,s19,s20]);repeat first|(refine r_ ?_;simp[hw])|refine q_ ?_
    refine Qc (sl':=[(1,LI (Ed cl)),(3,.vptr 0 0),(6,.nils),(7,.mref 1),(18,.list ((Wk a s).map encMv)),(19,.i (Wk a s).length),(20,.i (j+1:Nat))]) ?_ (by simp);exact zf _ E ⟨by omega,hE⟩ (by omega)
 ·have y0:j=(Wk a s).length:=by simp at yo;omega
  subst y0;have y6:∀t,(Z0 a cl s (Wk a s).length t).length≤2048:=fun t=>by unfold Z0;rw[zZ];refine yO (xM _ _) ?_;rw[xN];omega
  refine Qs (sl':=[(3,.vptr 0 0),(6,.nils),(7,.mref 1)]) ?_ (by simp);refine MG.freeze za gG.inj gG.ne (fun t ht=>by simp[AV.fz]) (L9 a cl s (Wk a s).length).length 0 G (by omega) (by rw[x1c];exact gG.map) (fun i t _ ht=>gG.leaf t (zJ ht)) fun H' y1 yc yd=> ?_;have g0:H'[0]? =some (.vars [.i a.types,.list (a.fin.map .bool),.list (a.mv.map encMv),.list (Yj a)]):=by rw[yd 0 (by have:=Qh gG.map;omega) (by decide) (fun t ht e=>by have:=gG.geL t ht;rw[hK]at this;simp at this;omega),gG.keep 0 (by rw[hK];simp)];exact ym
  rw[k1y]at y1;clear yd gG ih;refine y10 1 y1 (by simp[AV.pure]) ?_;have z1:=Qj y1 (.mp ((L9 a cl s (Wk a s).length).map fun t:Nat=>(AV.i t,AV.list ((Z0 a cl s (Wk a s).length t).map encP))));have z0:=Qd (j:=1) (by decide) g0 (.mp ((L9 a cl s (Wk a s).length).map fun t:Nat=>(AV.i t,AV.list ((Z0 a cl s (Wk a s).length t).map encP))));generalize H'.set 1 _=Z at *
  repeat first|(refine r_ ?_;simp)|refine q_ ?_
  refine N0 tOk rfl rfl rfl z2n rfl rfl z1 ?_;simp;repeat first|(refine r_ ?_;simp)|refine q_ ?_
  have zq:Z0 a cl s (Wk a s).length=O9 a cl s:=funext fun t=>x1n a cl s t;rw[zq]at *;generalize zh:L9 a cl s (Wk a s).length=ks at *;refine Qs (sl':=[(3,.vptr 0 0),(6,.nils),(10,.nils),(43,.vptr Z.length 0)]) ?_ (by simp)
  refine Q3 10 78 3 rfl ?_;simp;have xb:=Qh z1;refine Q4 fun E hE=> ?_;have e0:E[0]? =some (.vars [.i a.types,.list (a.fin.map .bool),.list (a.mv.map encMv),.list (Yj a)]):=by rw[hE];exact Qa (Qd (j:=1) (by decide) z0 _) _
  have ei:E[Z.length]? =some (.it (ks.map fun t:Nat=>(.i t,.list ((O9 a cl s t).map encP))) none):=by rw[hE,zH (by simp)];simp
  have eq:E[Z.length+1]? =some (.arr 78 3 []):=by rw[hE,zH (by simp)];simp
  clear hE;generalize Z.length=I at *;clear z0 z1;clear Z
  have hT:=ha.ok.types;have yv:((a.types.toNat:Nat):Int)=a.types:=by omega
  have ye:∀t,∀p∈O9 a cl s t,PWf a.types.toNat p:=fun t p hp=>by obtain⟨m,hm,rfl⟩:=zR.1 hp;exact(Nw ha.ok (xL.1 hm).1).1
  have yf:∀t,(O9 a cl s t).length≤1000000:=fun t=>yO (z0o ha.ok cl s t) (by decide);have hU:∀t,PC Tryz.prog 161 [.i a.types,LP (O9 a cl s t)] (fun r=>r=encP (U5 a.types.toNat (O9 a cl s t))):=fun t=>by
   have:=g05 a.types.toNat (O9 a cl s t) (by omega) (ye t) (fun i _=>Vu ha.ok cl s t i) (yf t)
   rwa [yv]at this
  have yw:ks.length≤2048:=by rw[←zh];unfold L9;rw[yP];have:=u19 cl (Wk a s) [];simp only[List.length_nil]at this;omega
  have yy:∀t,∀r∈U5 a.types.toNat (O9 a cl s t),r.length≤1000000000:=fun t r hr=>by have:=w20 (fun i=>Vu ha.ok cl s t i) r hr;omega
  clear ye yf;refine Qp (Qc (sl':=[(3,.vptr 0 0),(6,.nils),(10,.sl (I+1) 3 0 ([]:List Nat).length),(43,.vptr I 0)]) ?_ (by simp));refine Qo (P:=Tryz.prog) (F:=fun(u:List Nat×Option (AV×AV)×List Nat×Nat×List AObj)=>⟨[(3,.vptr 0 0),(6,.nils),(10,.sl u.2.2.2.1 3 0 u.2.2.1.length),(43,.vptr I 0)],u.2.2.2.2⟩)
   (fun u=>I<u.2.2.2.1∧(u.2.2.1++u.1).Perm ks∧u.2.2.2.2[0]? =some (.vars [.i a.types,.list (a.fin.map .bool),.list (a.mv.map encMv),.list (Yj a)])∧u.2.2.2.2[I]? =some (.it (u.1.map fun t:Nat=>(.i t,.list ((O9 a cl s t).map encP))) u.2.1)∧u.2.2.2.2[u.2.2.2.1]? =some (.arr 78 3 (u.2.2.1.map fun t:Nat=>encMv ⟨0,t,U5 a.types.toNat (O9 a cl s t)⟩))) (fun u=>u.1.length) ?_ (ks,none,[],I+1,E) ⟨by simp only;omega,by simp,e0,ei,eq⟩
  clear e0 ei eq;clear E;rintro⟨left,cur,ds,q,E⟩ ⟨yz,zg,e0,ei,eq⟩ ih;simp only at yz zg e0 ei eq ih ⊢;repeat first|(refine r_ ?_;simp)|refine q_ ?_
  refine u0o rfl rfl rfl rfl ei (fun x0=> ?_) (fun i p hp=> ?_)
  ·simp;have x1:left=[]:=by simpa using x0
   subst x1;rw[xD]at zg;have xc:ds.length≤2048:=by rw[zg.length_eq];exact yw
   repeat first|(refine r_ ?_;simp)|refine q_ ?_
   refine Qk rfl ?_;simp;repeat first|(refine r_ ?_;simp)|refine q_ ?_
   have x2:(ds.map fun t:Nat=>encMv ⟨0,t,U5 a.types.toNat (O9 a cl s t)⟩)=(ds.map fun t:Nat=>(⟨0,(t:Int),U5 a.types.toNat (O9 a cl s t)⟩:Mv)).map encMv:=by rw[vN];rfl
   rw[x2]at eq;have zj:=g0z ha cl s (ks:=ds) (zg.symm.nodup za) (fun t=>by
    rw[zg.mem_iff,←zh,Xx,yP])
   have yg:∀m∈(ds.map fun t:Nat=>(⟨0,(t:Int),U5 a.types.toNat (O9 a cl s t)⟩:Mv)),gdM a.types.toNat m:=fun m hm=>by refine⟨zj.wf m hm,(Ut (zj.wf m hm)).2 (zj.ne m hm),fun t ht=> ?_⟩;obtain⟨u,_,rfl⟩:=zR.1 hm;exact yy u t ht
   obtain⟨L,hL⟩:∃L,L=(ds.map fun t:Nat=>(⟨0,(t:Int),U5 a.types.toNat (O9 a cl s t)⟩:Mv)):=⟨_,rfl⟩
   have x3:ds.length=L.length:=by rw[hL];simp
   rw[←hL]at eq zj yg;have x4:L.length≤1000000:=by omega
   rw[x3];refine Q9 rfl rfl (d01 a.types.toNat (by omega) E q L eq x4 yg) rfl ?_;rintro r H' ⟨rfl,l',h1,h2,rfl⟩;simp;have yh:=Hj ha cl hs;have zk:=zj.perm h1.symm;have zv:l'.Pairwise (ltG kyM):=by have x5:=zk.apart fun t t' ty y=>Mz ha hs;refine(h2.and x5).imp fun {x y} h=> ?_;obtain⟨e1,e2⟩:=h;exact d0m e1 e2
   have zl:l'=v0q a cl s:=zk.uniq yh.1 zv yh.2;have ya:=h1.length_eq;rw[←ya];refine Qs (sl':=[(6,.nils),(10,.sl q 3 0 l'.length)]) ?_ (by simp);refine Wh q (Qj eq _) ?_;simp[AV.fz];rw[zO (by simp),zl];repeat first|(refine r_ ?_;simp)|refine q_ ?_
  ·simp;rw[zX]at hp;obtain⟨t,ht,rfl⟩:=zU.1 hp;rw[d0l];have zm:(ds++[t]++left.eraseIdx i).Perm ks:=by refine List.Perm.trans ?_ zg;rw[xW];exact List.Perm.append_left ds (Li left i t ht).symm
   have xd:(left.eraseIdx i).length<left.length:=by rw[List.length_eraseIdx,if_pos (Rc ht)];have:=Rc ht;omega
   have xe:ds.length+1≤2048:=by have:=zm.length_eq;simp at this;omega
   have xf:=Qh ei;have zf:=fun y2 q' E'=>ih (left.eraseIdx i,y2,ds++[t],q',E');simp only[yB,List.length_singleton,yF,yY,wI]at zf;generalize left.eraseIdx i=left' at *
   have k0:=Qd (j:=I) (by intro e;rw[e,e0]at ei;simp at ei) e0 (.it (left'.map fun t:Nat=>(AV.i t,AV.list ((O9 a cl s t).map encP))) (some (AV.i t,AV.list ((O9 a cl s t).map encP))));have ki:=Qj ei (.it (left'.map fun t:Nat=>(AV.i t,AV.list ((O9 a cl s t).map encP))) (some (AV.i t,AV.list ((O9 a cl s t).map encP))));have kq:=Qd (j:=I) (by omega) eq (.it (left'.map fun t:Nat=>(AV.i t,AV.list ((O9 a cl s t).map encP))) (some (AV.i t,AV.list ((O9 a cl s t).map encP))));generalize E.set I (.it (left'.map fun t:Nat=>(AV.i t,AV.list ((O9 a cl s t).map encP))) (some (AV.i t,AV.list ((O9 a cl s t).map encP))))=E1 at *
   clear e0 ei eq;repeat first|(refine r_ ?_;simp)|refine q_ ?_
   refine Qk rfl ?_;simp;repeat first|(refine r_ ?_;simp)|refine q_ ?_
   refine q0v rfl rfl rfl rfl ki ?_;simp;have zn:(ds.map fun t:Nat=>encMv ⟨0,t,U5 a.types.toNat (O9 a cl s t)⟩).length=ds.length:=by simp
   generalize y4:(ds.map fun t:Nat=>encMv ⟨0,t,U5 a.types.toNat (O9 a cl s t)⟩)=mm at *
   repeat first|(refine r_ ?_;simp[k0])|refine q_ ?_
   refine Qf rfl rfl (by simp) (hU t) rfl ?_;rintro _ rfl;simp;refine Qe tOk rfl rfl T23 rfl T78 rfl (by decide) (by decide) rfl rfl rfl ?_;simp[Qa kq,Qi kq,kq,zn];refine⟨by simp[Wa,Qa kq,Qi kq,kq,zn]<;>omega,?_⟩;repeat first|(refine r_ ?_;simp)|refine q_ ?_
   refine Qc (sl':=[(3,.vptr 0 0),(6,.nils),(10,.sl (E1.length+1) 3 0 (ds.length+1)),(43,.vptr I 0)]) ?_ (by simp);have xg:=Qh kq;refine zf _ (E1.length+1) _ ⟨by omega,by simpa using zm,Qa (Qd (j:=q) (by omega) k0 _) _,Qa (Qd (j:=q) (by omega) ki _) _,?_⟩ (by omega);rw[zH (by simp)];simp
end Go.Abs
namespace Go.Abs
open Go Go.Proofs
theorem G7{a:Aut}(ha:Dfa a):(clA a).length=a.fin.length:=(c1i ha).len
theorem u1o{a:Aut}(ha:Dfa a):∀c∈clA a,c≤1000000:=fun c hc=>by obtain⟨j,hj⟩:=yK.1 hc;obtain⟨z1,rfl⟩:=zE.1 hj;have:=(c1i ha).lt_fs (by rw[G7 ha]at z1;exact z1);have h2:=j04 ha;have h3:=ha.ok.fin;simp only[yV,zI z1,Option.getD_some]at this;have h4:(O4 (eqS a) a.fin.length).1.length≤a.fin.length:=h2;unfold clA at *;omega
theorem j02{l:List Nat}{i:Nat}(h:i<l.length):l.getD i 0∈l:=by rw[yV,zI h];exact zK h
theorem j1s{a:Aut}(ha:Dfa a){c:Nat}(hc:Kv a c):c∈clA a:=by
 obtain⟨h1,h2⟩:=O2 ha hc;have hl:Y5 a c<(clA a).length:=by rw[G7 ha];exact h1
 have e:Rj a (Y5 a c)=(clA a).getD (Y5 a c) 0:=rfl;rw[←h2,e];exact j02 hl
theorem g1f{a:Aut}(ha:Dfa a){c:Nat}(hc:Kv a c):Db (fun y:Int=>((c:Nat):Int)==y) (Ed (clA a))=(Y5 a c:Nat):=by
 have e:(fun y:Int=>((c:Nat):Int)==y)=fun y:Int=>y==((c:Nat):Int):=by funext y;rw[xU,beq_iff_eq,beq_iff_eq];exact eq_comm
 rw[e,w0h (j1s ha hc)];rfl
theorem z0k{a:Aut}(ha:Dfa a):(clA a)[0]? =some (Rj a 0):=by
 have z1:0<(clA a).length:=by rw[G7 ha];have:=ha.zero.2;omega
 have:Rj a 0=(clA a).getD 0 0:=by unfold Rj;rfl
 rw[this,yV,zI z1];rfl
theorem w0l{a:Aut}(ha:Dfa a){c:Nat}(hc:Kv a c):c≤1000000:=by have h3:=j04 ha;have h4:=ha.ok.fin;unfold Kv at hc;omega
end Go.Abs
namespace Go.Abs
open Go Go.Proofs Go.Maps Go.RowKit
abbrev w1n (a:Aut):AObj:= .vars [.i a.types,.list (a.fin.map .bool),.list (a.mv.map encMv),.list (Yj a)]
theorem c0d(a:Aut)(c:Nat):v0q a (clA a) (Y5 a c:Nat)=Ih a c:=rfl
theorem v0z{l:List Bool}{i:Nat}(h:i<l.length):l[i]? =some (l.getD i false):=by simp[yV,h]
attribute [local irreducible] clA Y5 Ih Wj O3 Jx qMv qM qF Ww mpO Rj v0q Yj Kv
theorem q0r(a:Aut)(ha:Dfa a):PC Tryz.prog 80 [R3 a] (fun r=>r=encA (Ww a)):=by
 refine Ql tOk Tryz.func80 rfl Tryz.results80 rfl (by simp[Tryz.ntmps80]) ?_;rw[Tryz.ntmps80];simp only[Qg];simp only[R3,We];have xh:=ha.ok.fin;have hlen:=G7 ha;have hle:=u1o ha;have y3:0<(clA a).length:=by rw[hlen];have:=ha.zero.2;omega
 have xi:=z0k ha;have xj:Rj a 0≤1000000:=w0l ha (y0i ha ha.zero);repeat first|(refine r_ ?_;simp)|refine q_ ?_
 have cG:=Jq a ha;have cM:=fun(s:Int) (hs:inS a s)=>j0t a ha (clA a) hlen hle s hs;have xk:=fun(c:Nat) (hc:Kv a c)=>g1f ha hc;have y4:(Ed (clA a))[0]? =some ((Rj a 0:Nat):Int):=by simp[xi]
 have yw:0<(Ed (clA a)).length:=by simp[y3]
 generalize Ed (clA a)=CL at *
 have zk:∀hh,CL[0]'hh=((Rj a 0:Nat):Int):=fun hh=>(zY hh).2 y4;simp only[R3,We]at cG cM;refine Qf rfl rfl (by simp) (cG) rfl ?_;rintro _ rfl;simp;repeat first|(refine r_ ?_;simp)|refine q_ ?_
 refine Rz rfl rfl rfl ?_;simp[yw,y4,zk];refine u0g rfl rfl rfl rfl (c:=Rj a 0) rfl rfl rfl xj ?_;simp;repeat first|(refine r_ ?_;simp[yw,y4,zk])|refine q_ ?_
 refine Qs (sl':=[(1,.vptr 0 0),(2,.vptr 1 0),(3,LI CL),(4,.mref 2),(5,.sl 3 1 0 1),(6,.vptr 4 0),(7,.i (0:Nat))]) ?_ (by simp);refine Wt 4 1 4 1 rfl rfl ?_;refine Q4 fun Z1 z8=> ?_;have z1l:Z1.length=6:=by rw[z8];simp
 have z1c:Z1[4]? =some (.vars [.i a.types,.sl 5 1 0 0,.nils]):=by rw[z8];rfl
 have z1f:Z1[5]? =some (.arr 4 1 []):=by rw[z8];rfl
 have z1o:Z1[3]? =some (.arr 3 1 [.i (Rj a 0:Nat)]):=by rw[z8];rfl
 have z1m:Z1[2]? =some (mpO [Rj a 0]):=by rw[z8];rfl
 have z10:Z1[0]? =some (w1n a):=by rw[z8];rfl
 have z11:Z1[1]? =some (.vars [.i 0,.nils,.nils]):=by rw[z8];rfl
 clear z8;refine Wt 4 2 78 3 z1c rfl ?_;refine Q4 fun Z2 za=> ?_;have z2c:Z2[4]? =some (.vars [.i a.types,.sl 5 1 0 0,.sl 6 3 0 0]):=by rw[za,zL (by simp;omega)];simp[z1l]
 have z2f:Z2[5]? =some (.arr 4 1 []):=by rw[za,zB (by omega),zF (by omega)];exact z1f
 have z2v:Z2[6]? =some (.arr 78 3 []):=by rw[za,zB (by omega),zH (by omega)];simp[z1l]
 have z2o:Z2[3]? =some (.arr 3 1 [.i (Rj a 0:Nat)]):=by rw[za,zB (by omega),zF (by omega)];exact z1o
 have z2m:Z2[2]? =some (mpO [Rj a 0]):=by rw[za,zB (by omega),zF (by omega)];exact z1m
 have z20:Z2[0]? =some (w1n a):=by rw[za,zB (by omega),zF (by omega)];exact z10
 have z21:Z2[1]? =some (.vars [.i 0,.nils,.nils]):=by rw[za,zB (by omega),zF (by omega)];exact z11
 clear za z1l z1c z1f z10 z11 z1o z1m;clear Z1;refine Qp (Qc (sl':=[(1,.vptr 0 0),(2,.vptr 1 0),(3,LI CL),(4,.mref 2),(5,.sl 3 1 0 [Rj a 0].length),(6,.vptr 4 0),(7,.i (0:Nat))]) ?_ (by simp));refine Qo (P:=Tryz.prog) (F:=fun(u:Nat×List Nat×Nat×Nat×Nat×List AObj)=>⟨[(1,.vptr 0 0),(2,.vptr 1 0),(3,LI CL),(4,.mref 2),(5,.sl u.2.2.1 1 0 u.2.1.length),(6,.vptr 4 0),(7,.i u.1)],u.2.2.2.2.2⟩)
  (fun u=>QI a u.1 u.2.1∧u.2.2.2.2.2[0]? =some (w1n a)∧u.2.2.2.2.2[1]? =some (.vars [.i 0,.nils,.nils])∧u.2.2.2.2.2[2]? =some (mpO u.2.1)∧u.2.2.2.2.2[4]? =some (.vars [.i a.types,.sl u.2.2.2.1 1 0 u.1,.sl u.2.2.2.2.1 3 0 (qM a u.1 u.2.1).length])∧u.2.2.2.2.2[u.2.2.1]? =some (.arr 3 1 ((Ed u.2.1).map .i))∧u.2.2.2.2.2[u.2.2.2.1]? =some (.arr 4 1 ((qF a (u.2.1.take u.1)).map .bool))∧u.2.2.2.2.2[u.2.2.2.2.1]? =some (.arr 78 3 ((qM a u.1 u.2.1).map encMv)))
  (fun u=>a.fin.length+1 - u.1) ?_ (0,[Rj a 0],3,5,6,Z2) ⟨QI.zero ha,z20,z21,z2m,by rw[Z7];exact z2c,z2o,by simpa[u1g]using z2f,by rw[Z7];exact z2v⟩
 clear z20 z21 z2c z2f z2v z2o z2m;clear Z2;rintro⟨n,O,o,f,v,G⟩ ⟨hQ,g0,g1,gm,gc,go,gf,gv⟩ ih;simp only at hQ g0 g1 gm gc go gf gv ih ⊢;have w8:=hQ.len ha;have yy:=hQ.cl;repeat first|(refine r_ ?_;simp)|refine q_ ?_
 refine Qb rfl (fun xl=> ?_) (fun xn=> ?_)
 ·have zd:n<O.length:=by simpa using xl
  have hw:IntKind.i64.wrap ((n:Int)+1)=n+1:=wrap_i64 _ (by omega) (by omega);have y5:O[n]? =some O[n]:=zI zd;have zl:=yy _ (zK zd);have yz:=hQ.step ha y5;have x3:=c09 hQ y5;have x4:=q1p a (Ih a O[n]) y5;have xp:=u1i ha hQ;have zx:=fun o' f' v' G'=>ih (n+1,Wj O (Ih a O[n]),o',f',v',G');simp only[x3,x4]at zx;clear x3 x4 ih;have xq:((Ed O).map AV.i).length=O.length:=by simp
  have x5:=(O2 ha zl).1;have xr:=B9 ha zl;have xt:=xk _ zl;have xu:=c0d a O[n];have xw:=Fp ha zl;have x6:∀m∈Ih a O[n],∃d:Nat,m.dst=d∧d≤1000000:=fun m hm=>by obtain⟨x,_,e,_,e2,_⟩:=Fj ha zl hm;exact⟨_,e,w0l ha e2⟩
  generalize xy:O[n]=c at *
  have x7:=v0z x5;have xz:∀hh,a.fin[Y5 a c]'hh=a.fin.getD (Y5 a c) false:=fun hh=>(zY hh).2 x7;generalize a.fin.getD (Y5 a c) false=b at *
  have w9:(Wk a (Y5 a c:Nat)).length≤a.mv.length:=xM _ _;have wa:=ha.ok.mvs;have y6:o≠f:=fun e=>by rw[e,gf]at go;simp at go
  have y7:o≠v:=fun e=>by rw[e,gv]at go;simp at go
  have ze:f≠v:=fun e=>by rw[e,gv]at gf;simp at gf
  have zy:o≠4:=fun e=>by rw[e,gc]at go;simp at go
  have zj:f≠4:=fun e=>by rw[e,gc]at gf;simp at gf
  have zn:v≠4:=fun e=>by rw[e,gc]at gv;simp at gv
  have x8:o≠0:=fun e=>by rw[e,g0]at go;simp at go
  have w2:f≠0:=fun e=>by rw[e,g0]at gf;simp at gf
  have y8:v≠0:=fun e=>by rw[e,g0]at gv;simp at gv
  have x9:o≠1:=fun e=>by rw[e,g1]at go;simp at go
  have y9:f≠1:=fun e=>by rw[e,g1]at gf;simp at gf
  have zp:v≠1:=fun e=>by rw[e,g1]at gv;simp at gv
  have ya:o≠2:=fun e=>by rw[e,gm]at go;unfold mpO at go;simp at go
  have yb:f≠2:=fun e=>by rw[e,gm]at gf;unfold mpO at gf;simp at gf
  have zz:v≠2:=fun e=>by rw[e,gm]at gv;unfold mpO at gv;simp at gv
  repeat first|(refine r_ ?_;simp[go,xq,zd,xy])|refine q_ ?_
  refine Qf rfl rfl (by simp) (z0b CL c) rfl ?_;rintro _ rfl;simp;rw[xt];repeat first|(refine r_ ?_;simp)|refine q_ ?_
  have zq:((qF a (O.take n)).map AV.bool).length=n:=by simp[w04];omega
  generalize wb:(qF a (O.take n))=fs at *;refine Qn tOk mixed [9,11] (.val 0 (.val 1 (.val 2 (.val 3 (.val 4 (.val 5 (.val 6 (.val 7 (.one 8 (.one 9 (.val 10 (.one 11 (.done))))))))))))) rfl (by kernel_rfl) ?_
  simp[gc,g0,x5,x7,xz];have g2c:∀M,(G.set f .dead++M)[4]? =some (.vars [.i a.types,.sl f 1 0 n,.sl v 3 0 (qM a n O).length]):=fun M=>Qa (Qd zj gc _) M;have g2d:∀M hh,(G.set f .dead++M)[4]'hh= .vars [.i a.types,.sl f 1 0 n,.sl v 3 0 (qM a n O).length]:=fun M hh=>(zY hh).2 (g2c M);refine Qe tOk rfl rfl T22 rfl T4 rfl (by decide) (by decide) rfl rfl rfl ?_;simp[Qa gf,Qi gf,gf,zq,g2c,g2d];refine⟨by simp[Wa,Qa gf,Qi gf,gf,zq,g2c,g2d]<;>omega,?_⟩;refine Q4 fun Z hZ=> ?_;have yd:=Qh go;have ye:=Qh gv;have yg:=Qh gf;have z0:Z[0]? =some (w1n a):=by rw[hZ];exact Qd (by decide) (Qa (Qd w2 g0 _) _) _
  have z1:Z[1]? =some (.vars [.i 0,.nils,.nils]):=by rw[hZ];exact Qd (by decide) (Qa (Qd y9 g1 _) _) _
  have zm:Z[2]? =some (mpO O):=by rw[hZ];exact Qd (by decide) (Qa (Qd yb gm _) _) _
  have zc:Z[4]? =some (.vars [.i a.types,.sl (G.length+1) 1 0 (n+1),.sl v 3 0 (qM a n O).length]):=by rw[hZ];exact Qj (g2c _) _
  have zf:Z[G.length+1]? =some (.arr 4 1 ((fs++[b]).map .bool)):=by rw[hZ,zB (by omega),zH (by simp)];simp
  have zv:Z[v]? =some (.arr 78 3 ((qM a n O).map encMv)):=by rw[hZ];exact Qd (Ne.symm zn) (Qa (Qd ze gv _) _) _
  have zo:Z[o]? =some (.arr 3 1 ((Ed O).map .i)):=by rw[hZ];exact Qd (Ne.symm zy) (Qa (Qd (Ne.symm y6) go _) _) _
  clear hZ g2c g2d g0 g1 gc go gf gv gm;generalize G.length+1=f1 at *
  have cMc:=cM (Y5 a c) xr;rw[xu]at cMc;obtain⟨M,hM⟩:∃M,M=qM a n O:=⟨_,rfl⟩
  rw[←hM]at zc zv xp zx;obtain⟨L,hL⟩:∃L,L=Ih a c:=⟨_,rfl⟩
  rw[←hL]at xw x6 zx yz cMc;repeat first|(refine r_ ?_;simp[z0])|refine q_ ?_
  refine Qf rfl rfl (by simp) (cMc) rfl ?_;rintro _ rfl;simp;repeat first|(refine r_ ?_;simp)|refine q_ ?_
  refine Qp (Qc (sl':=[(1,.vptr 0 0),(2,.vptr 1 0),(3,LI CL),(4,.mref 2),(5,.sl o 1 0 (Wj O (L.take 0)).length),(6,.vptr 4 0),(7,.i n),(54,.list (L.map encMv)),(55,.i L.length),(56,.i (0:Nat))]) ?_ (by simp[Td]));refine Qo (P:=Tryz.prog) (F:=fun(u:Nat×Nat×Nat×List AObj)=>⟨[(1,.vptr 0 0),(2,.vptr 1 0),(3,LI CL),(4,.mref 2),(5,.sl u.2.1 1 0 (Wj O (L.take u.1)).length),(6,.vptr 4 0),(7,.i n),(54,.list (L.map encMv)),(55,.i L.length),(56,.i u.1)],u.2.2.2⟩)
   (fun u=>u.1≤L.length∧u.2.2.2[0]? =some (w1n a)∧u.2.2.2[1]? =some (.vars [.i 0,.nils,.nils])∧u.2.2.2[2]? =some (mpO (Wj O (L.take u.1)))∧u.2.2.2[4]? =some (.vars [.i a.types,.sl f1 1 0 (n+1),.sl u.2.2.1 3 0 (M++qMv O L n u.1).length])∧u.2.2.2[u.2.1]? =some (.arr 3 1 ((Ed (Wj O (L.take u.1))).map .i))∧u.2.2.2[f1]? =some (.arr 4 1 ((fs++[b]).map .bool))∧u.2.2.2[u.2.2.1]? =some (.arr 78 3 ((M++qMv O L n u.1).map encMv))∧(Wj O (L.take u.1)).Nodup∧∀c∈Wj O (L.take u.1),c≤1000000)
   (fun u=>L.length - u.1) ?_ (0,o,v,Z) ⟨wn _,z0,z1,by rw[ww,Td];exact zm,by rw[Fi,xD];exact zc,by rw[ww,Td];exact zo,zf,by rw[Fi,xD];exact zv,by rw[ww,Td];exact hQ.nd,by rw[ww,Td];exact fun c hc=>w0l ha (yy c hc)⟩
  clear z0 z1 zc zo zf zv yd ye yg zm;clear Z;rintro⟨j,o,v,Z⟩ ⟨hj,z0,z1,zm,zc,zo,zf,zv,y2,zb⟩ ih2;simp only at hj z0 z1 zm zc zo zf zv y2 zb ih2 ⊢;repeat first|(refine r_ ?_;simp)|refine q_ ?_
  refine Qb rfl (fun yh=> ?_) (fun yi=> ?_)
  ·have z7:j<L.length:=by simpa using yh
   have xa:IntKind.i64.wrap ((j:Int)+1)=j+1:=wrap_i64 _ (by omega) (by omega);have xb:=w0t O L n z7;have xd:=Pu (o:=O) z7;have we:=j07 O L n j;have wg:(Wj O (L.take j)).length≤O.length+L.length:=Lg O (L.take j) (by simp;omega);have z6:=fun o' v' Z'=>ih2 (j+1,o',v',Z');simp only[xb,xd,←xW]at z6;clear xb xd;obtain⟨d,hd,yj⟩:=x6 _ (zK z7);have yk:(L.map encMv)[j]? =some (encMv L[j]):=by simp[z7]
   have yl:∀hh,(L.map encMv)[j]'hh=encMv L[j]:=fun hh=>by simp
   generalize w3:L[j]=m at *;rw[hd]at z6;simp only[Int.toNat_natCast]at z6;generalize hN:M++qMv O L n j=N at *
   have wh:N.length≤700000:=by rw[←hN,yB];omega
   generalize Wj O (L.take j)=Oj at *;simp only[encMv]at yk yl;rw[hd]at yk yl
   have wi:4<Z.length:=Qh zc;have y6:o≠f1:=fun e=>by rw[e,zf]at zo;simp at zo
   have y7:o≠v:=fun e=>by rw[e,zv]at zo;simp at zo
   have ze:f1≠v:=fun e=>by rw[e,zv]at zf;simp at zf
   have zy:o≠4:=fun e=>by rw[e,zc]at zo;simp at zo
   have zj:f1≠4:=fun e=>by rw[e,zc]at zf;simp at zf
   have zn:v≠4:=fun e=>by rw[e,zc]at zv;simp at zv
   have x8:o≠0:=fun e=>by rw[e,z0]at zo;simp at zo
   have y8:v≠0:=fun e=>by rw[e,z0]at zv;simp at zv
   have x9:o≠1:=fun e=>by rw[e,z1]at zo;simp at zo
   have zp:v≠1:=fun e=>by rw[e,z1]at zv;simp at zv
   have ya:o≠2:=fun e=>by rw[e,zm]at zo;unfold mpO at zo;simp at zo
   have zz:v≠2:=fun e=>by rw[e,zm]at zv;unfold mpO at zv;simp at zv
   have yb:f1≠2:=fun e=>by rw[e,zm]at zf;unfold mpO at zf;simp at zf
   repeat first|(refine r_ ?_;simp[yk,yl,z7])|refine q_ ?_
   refine Rv fun Y hY=> ?_;have y0:Y[0]? =some (w1n a):=by rw[hY];exact Qa z0 _
   have y1:Y[1]? =some (.vars [.i 0,.nils,.nils]):=by rw[hY];exact Qa z1 _
   have ym:Y[2]? =some (mpO Oj):=by rw[hY];exact Qa zm _
   have yc:Y[4]? =some (.vars [.i a.types,.sl f1 1 0 (n+1),.sl v 3 0 N.length]):=by rw[hY];exact Qa zc _
   have yo:Y[o]? =some (.arr 3 1 ((Ed Oj).map .i)):=by rw[hY];exact Qa zo _
   have yf:Y[f1]? =some (.arr 4 1 ((fs++[b]).map .bool)):=by rw[hY];exact Qa zf _
   have yv:Y[v]? =some (.arr 78 3 (N.map encMv)):=by rw[hY];exact Qa zv _
   have yx:Y[Z.length]? =some (.vars [.i m.src,.i d,.list (m.on.map encL)]):=by rw[hY,zH (by simp)];simp
   clear hY z0 z1 zm zc zo zf zv;generalize Z.length=u at *;clear Z
   have wj:v≠u:=fun e=>by rw[e,yx]at yv;simp at yv
   have w4:o≠u:=fun e=>by rw[e,yx]at yo;simp at yo
   have w5:2≠u:=fun e=>by rw[←e,ym]at yx;unfold mpO at yx;simp at yx
   have wk:4<u:=by omega
   refine Ny rfl rfl rfl rfl (c:=d) rfl (l:=Oj) ym y2 zb yj ?_;by_cases hmem:d∈Oj
   ·have zr:O3 Oj d=Oj:=by unfold O3;rw[if_pos hmem]
    rw[zr]at z6;rw[if_pos hmem,decide_eq_true hmem];obtain⟨x,hx⟩:∃x,x=Jx Oj d:=⟨_,rfl⟩
    rw[←hx]at z6 ⊢;clear hx zr;simp;repeat first|(refine r_ ?_;simp)|refine q_ ?_
    refine Qk rfl ?_;simp;have zg:=zy;have zh:=y7;have zi:=y2;have yn:=zb;have zt:(N.map encMv).length=N.length:=by simp
    have yp:(N++[(⟨n,x,m.on⟩:Mv)]).map encMv=N.map encMv++[encMv ⟨n,x,m.on⟩]:=by simp
    have yq:(N++[(⟨n,x,m.on⟩:Mv)]).length=N.length+1:=by simp
    rw[yp,yq]at z6;generalize N.map encMv=NM at *
    have g3c:∀M,(Y.set v .dead++M)[4]? =some (.vars [.i a.types,.sl f1 1 0 (n+1),.sl v 3 0 N.length]):=fun M=>Qa (Qd zn yc _) M;have g3d:∀M hh,(Y.set v .dead++M)[4]'hh= .vars [.i a.types,.sl f1 1 0 (n+1),.sl v 3 0 N.length]:=fun M hh=>(zY hh).2 (g3c M);repeat first|(refine r_ ?_;simp[yc,yx])|refine q_ ?_
    refine Qe tOk rfl rfl T23 rfl T78 rfl (by decide) (by decide) rfl rfl rfl ?_;simp[Qa yv,Qi yv,yv,zt,g3c,g3d];refine⟨by simp[Wa,Qa yv,Qi yv,yv,zt,g3c,g3d]<;>omega,?_⟩;refine Q4 fun W hW=> ?_;have yr:=Qh yv;have yt:=Qh yc;have w0:W[0]? =some (w1n a):=by rw[hW];exact Qd (by decide) (Qa (Qd y8 y0 _) _) _
    have w1:W[1]? =some (.vars [.i 0,.nils,.nils]):=by rw[hW];exact Qd (by decide) (Qa (Qd zp y1 _) _) _
    have wm:W[2]? =some (mpO Oj):=by rw[hW];exact Qd (by decide) (Qa (Qd zz ym _) _) _
    have wc:W[4]? =some (.vars [.i a.types,.sl f1 1 0 (n+1),.sl (Y.length+1) 3 0 (N.length+1)]):=by rw[hW];exact Qj (g3c _) _
    have wo:W[o]? =some (.arr 3 1 ((Ed Oj).map .i)):=by rw[hW];exact Qd (Ne.symm zg) (Qa (Qd (Ne.symm zh) yo _) _) _
    have wf:W[f1]? =some (.arr 4 1 ((fs++[b]).map .bool)):=by rw[hW];exact Qd (Ne.symm zj) (Qa (Qd (Ne.symm ze) yf _) _) _
    have wv:W[Y.length+1]? =some (.arr 78 3 (NM++[encMv ⟨n,x,m.on⟩])):=by rw[hW,zB (by omega),zH (by simp)];simp
    clear hW;repeat first|(refine r_ ?_;simp[xa])|refine q_ ?_
    refine Qc (sl':=[(1,.vptr 0 0),(2,.vptr 1 0),(3,LI CL),(4,.mref 2),(5,.sl o 1 0 Oj.length),(6,.vptr 4 0),(7,.i n),(54,.list (L.map encMv)),(55,.i L.length),(56,.i (j+1:Nat))]) ?_ (by simp);exact z6 o (Y.length+1) W ⟨by omega,w0,w1,wm,wc,wo,wf,wv,zi,yn⟩ (by omega)
   ·have zr:O3 Oj d=Oj++[d]:=by unfold O3;rw[if_neg hmem]
    have xe:=d0i hmem;rw[zr,xe]at z6;rw[if_neg hmem,decide_eq_false hmem];clear zr xe;simp;repeat first|(refine r_ ?_;simp)|refine q_ ?_
    refine Qk rfl ?_;simp;repeat first|(refine r_ ?_;simp[yx])|refine q_ ?_
    refine x0d rfl rfl rfl rfl (c:=d) rfl (l:=Oj) rfl ym zb yj hmem ?_;simp;refine Q4 fun X hX=> ?_;have x0:X[0]? =some (w1n a):=by rw[hX];exact Qd (by decide) y0 _
    have x1:X[1]? =some (.vars [.i 0,.nils,.nils]):=by rw[hX];exact Qd (by decide) y1 _
    have xm:X[2]? =some (mpO (Oj++[d])):=by rw[hX];exact Qj ym _
    have xc:X[4]? =some (.vars [.i a.types,.sl f1 1 0 (n+1),.sl v 3 0 N.length]):=by rw[hX];exact Qd (by decide) yc _
    have xo:X[o]? =some (.arr 3 1 ((Ed Oj).map .i)):=by rw[hX];exact Qd (Ne.symm ya) yo _
    have xf:X[f1]? =some (.arr 4 1 ((fs++[b]).map .bool)):=by rw[hX];exact Qd (Ne.symm yb) yf _
    have xv:X[v]? =some (.arr 78 3 (N.map encMv)):=by rw[hX];exact Qd (Ne.symm zz) yv _
    have xx:X[u]? =some (.vars [.i m.src,.i d,.list (m.on.map encL)]):=by rw[hX];exact Qd w5 yx _
    clear hX y0 y1 ym yc yo yf yv yx;clear Y;have w6:(Ed Oj).length=Oj.length:=by simp
    have w7:Ed (Oj++[d])=Ed Oj++[(d:Int)]:=by simp
    rw[w7]at z6;generalize Ed Oj=NO at *
    have zu:(NO.map AV.i).length=Oj.length:=by simp[w6]
    have x0s:∀E,(X.set o .dead++E)[u]? =some (.vars [.i m.src,.i d,.list (m.on.map encL)]):=fun E=>Qa (Qd w4 xx _) E;repeat first|(refine r_ ?_;simp[xx])|refine q_ ?_
    refine Qe tOk rfl rfl T40 rfl T3 rfl (by decide) (by decide) rfl rfl rfl ?_;simp[Qa xo,Qi xo,xo,zu];refine⟨by simp[Wa,Qa xo,Qi xo,xo,zu]<;>omega,?_⟩;refine Q4 fun Y hY=> ?_;have wq:=Qh xv;have wu:=Qh xf;have wx:=Qh xc;have y0:Y[0]? =some (w1n a):=by rw[hY];exact Qa (Qd x8 x0 _) _
    have y1:Y[1]? =some (.vars [.i 0,.nils,.nils]):=by rw[hY];exact Qa (Qd x9 x1 _) _
    have ym:Y[2]? =some (mpO (Oj++[d])):=by rw[hY];exact Qa (Qd ya xm _) _
    have yc:Y[4]? =some (.vars [.i a.types,.sl f1 1 0 (n+1),.sl v 3 0 N.length]):=by rw[hY];exact Qa (Qd zy xc _) _
    have yf:Y[f1]? =some (.arr 4 1 ((fs++[b]).map .bool)):=by rw[hY];exact Qa (Qd y6 xf _) _
    have yv:Y[v]? =some (.arr 78 3 (N.map encMv)):=by rw[hY];exact Qa (Qd y7 xv _) _
    have yx:Y[u]? =some (.vars [.i m.src,.i d,.list (m.on.map encL)]):=by rw[hY];exact x0s _
    have yo:Y[X.length+1]? =some (.arr 3 1 ((NO++[(d:Int)]).map .i)):=by rw[hY,zH (by simp)];simp
    clear hY;obtain⟨x,hx⟩:∃x,x=Oj.length:=⟨_,rfl⟩
    refine Qs (sl':=[(1,.vptr 0 0),(2,.vptr 1 0),(3,LI CL),(4,.mref 2),(5,.sl (X.length+1) 1 0 (Oj++[d]).length),(6,.vptr 4 0),(7,.i n),(10,.vptr u 0),(11,.i x),(54,.list (L.map encMv)),(55,.i L.length),(56,.i j)]) ?_ (by simp[hx]);rw[←hx]at z6;have zg:X.length+1≠4:=by omega
    have zh:X.length+1≠v:=by omega
    have zi:(Oj++[d]).Nodup:=vB.2 ⟨y2,by simp,fun x hx y hy e=>by rw[zT.1 hy]at e;exact hmem (e▸hx)⟩;have yn:∀c∈Oj++[d],c≤1000000:=fun c hc=>by
     rcases zV.1 hc with hc|hc
     ·exact zb c hc
     ·rw[zT.1 hc];exact yj
    generalize X.length+1=oq at *;generalize NO++[(d:Int)]=NQ at *;clear hx;generalize Oj++[d]=OQ at *
    have zt:(N.map encMv).length=N.length:=by simp
    have yp:(N++[(⟨n,x,m.on⟩:Mv)]).map encMv=N.map encMv++[encMv ⟨n,x,m.on⟩]:=by simp
    have yq:(N++[(⟨n,x,m.on⟩:Mv)]).length=N.length+1:=by simp
    rw[yp,yq]at z6;generalize N.map encMv=NM at *
    have g3c:∀M,(Y.set v .dead++M)[4]? =some (.vars [.i a.types,.sl f1 1 0 (n+1),.sl v 3 0 N.length]):=fun M=>Qa (Qd zn yc _) M;have g3d:∀M hh,(Y.set v .dead++M)[4]'hh= .vars [.i a.types,.sl f1 1 0 (n+1),.sl v 3 0 N.length]:=fun M hh=>(zY hh).2 (g3c M);repeat first|(refine r_ ?_;simp[yc,yx])|refine q_ ?_
    refine Qe tOk rfl rfl T23 rfl T78 rfl (by decide) (by decide) rfl rfl rfl ?_;simp[Qa yv,Qi yv,yv,zt,g3c,g3d];refine⟨by simp[Wa,Qa yv,Qi yv,yv,zt,g3c,g3d]<;>omega,?_⟩;refine Q4 fun W hW=> ?_;have yr:=Qh yv;have yt:=Qh yc;have w0:W[0]? =some (w1n a):=by rw[hW];exact Qd (by decide) (Qa (Qd y8 y0 _) _) _
    have w1:W[1]? =some (.vars [.i 0,.nils,.nils]):=by rw[hW];exact Qd (by decide) (Qa (Qd zp y1 _) _) _
    have wm:W[2]? =some (mpO OQ):=by rw[hW];exact Qd (by decide) (Qa (Qd zz ym _) _) _
    have wc:W[4]? =some (.vars [.i a.types,.sl f1 1 0 (n+1),.sl (Y.length+1) 3 0 (N.length+1)]):=by rw[hW];exact Qj (g3c _) _
    have wo:W[oq]? =some (.arr 3 1 (NQ.map .i)):=by rw[hW];exact Qd (Ne.symm zg) (Qa (Qd (Ne.symm zh) yo _) _) _
    have wf:W[f1]? =some (.arr 4 1 ((fs++[b]).map .bool)):=by rw[hW];exact Qd (Ne.symm zj) (Qa (Qd (Ne.symm ze) yf _) _) _
    have wv:W[Y.length+1]? =some (.arr 78 3 (NM++[encMv ⟨n,x,m.on⟩])):=by rw[hW,zB (by omega),zH (by simp)];simp
    clear hW;repeat first|(refine r_ ?_;simp[xa])|refine q_ ?_
    refine Qc (sl':=[(1,.vptr 0 0),(2,.vptr 1 0),(3,LI CL),(4,.mref 2),(5,.sl oq 1 0 OQ.length),(6,.vptr 4 0),(7,.i n),(54,.list (L.map encMv)),(55,.i L.length),(56,.i (j+1:Nat))]) ?_ (by simp);exact z6 oq (Y.length+1) W ⟨by omega,w0,w1,wm,wc,wo,wf,wv,zi,yn⟩ (by omega)
  ·have zw:j=L.length:=by simp at yi;omega
   subst zw;rw[yP]at zo zm ⊢;repeat first|(refine r_ ?_;simp[hw])|refine q_ ?_
   refine Qc (sl':=[(1,.vptr 0 0),(2,.vptr 1 0),(3,LI CL),(4,.mref 2),(5,.sl o 1 0 (Wj O L).length),(6,.vptr 4 0),(7,.i (n+1:Nat))]) ?_ (by simp);exact zx o f1 v Z ⟨yz,z0,z1,zm,zc,zo,zf,zv⟩ (by omega)
 ·have yu:n=O.length:=by simp at xn;have:=hQ.le;omega
  rw[d0y ha hQ yu];have xg:=w04 a (O.take n);rw[xN,Nat.min_eq_left hQ.le]at xg;generalize qF a (O.take n)=fs at *;generalize qM a n O=M at *
  have ze:f≠v:=fun e=>by rw[e,gv]at gf;simp at gf
  have zj:f≠4:=fun e=>by rw[e,gc]at gf;simp at gf
  have zn:v≠4:=fun e=>by rw[e,gc]at gv;simp at gv
  have y9:f≠1:=fun e=>by rw[e,g1]at gf;simp at gf
  have zp:v≠1:=fun e=>by rw[e,g1]at gv;simp at gv
  rw[←xg]at gc;refine Qs (sl':=[(2,.vptr 1 0),(6,.vptr 4 0)]) ?_ (by simp);refine Q1 v gv 4 gc ?_;simp[ze];rw[zO (by simp)];refine Q4 fun Z hZ=> ?_;have wy:=Qh gv;have z2:Z[4]? =some (.vars [.i a.types,.sl f 1 0 fs.length,.list (M.map encMv)]):=by rw[hZ,zL (by have:=Qh gc;simpa using this)]
  have zf:Z[f]? =some (.arr 4 1 (fs.map .bool)):=by rw[hZ,zB (Ne.symm zj),zB (Ne.symm ze)];exact gf
  have z1:Z[1]? =some (.vars [.i 0,.nils,.nils]):=by rw[hZ,zB (by decide),zB zp];exact g1
  clear hZ;refine Q1 f zf 4 z2 ?_;simp;rw[zO (by simp)];refine Q4 fun X hX=> ?_;have x2:X[4]? =some (.vars [.i a.types,.list (fs.map .bool),.list (M.map encMv)]):=by rw[hX,zL (by have:=Qh z2;simpa using this)]
  have x1:X[1]? =some (.vars [.i 0,.nils,.nils]):=by rw[hX,zB (by decide),zB y9];exact z1
  clear hX;have x1s:∀Y,(X.set 1 Y)[1]? =some Y:=fun Y=>Qj x1 Y;repeat first|(refine r_ ?_;simp[x2,x1,x1s])|refine q_ ?_
end Go.Abs
namespace Go.Abs
open Go Go.Proofs
theorem y1c{a:Aut}(ha:Dfa a){m:Mv}(hm:m∈(Ww a).mv):Ej a.types m.on=0↔(m.on.any fun s=>decide (256<s.length))=false:=by
 have h:=z0f ha;have hT:=ha.ok.types;have hw:PWf a.types.toNat m.on:=h.on m hm;rw[Ek];simp only[List.any_eq_false,decide_eq_true_eq];constructor
 ·rintro⟨_,h2⟩ s hs;have:=(h2.2 s hs).len;omega
 ·intro h2;refine⟨hT,hw.1,fun s hs=> ?_⟩;have z1:=hw.2 s hs;exact Hz z1.1 (z0e z1.1 z1.2) (by have:=h2 s hs;omega)
theorem Mg{a:Aut}(h:Wq a≠0):(Rt a).1=Wq a:=by unfold Rt;rw[Z9 h,if_pos h]
theorem q0g{a:Aut}(h:(Rt a).1≠0):Ls a=((Rt a).1,Ys):=by rw[Ls,if_pos h]
theorem k16{a:Aut}(h:Wq a≠0):Ls a=(Wq a,Ys):=by rw[q0g (by rw[Mg h];exact h),Mg h]
theorem Xr{a:Aut}(h:(Rt a).1=0):Ie (Rt a).2=Pg (Rt a).2:=by rw[Ie,if_neg (fun k=>k ((O5 _).2 (d1w h)))]
theorem c0u{a:Aut}(h:(Rt a).1=0)(h2:(Ie (Rt a).2).1≠0):Ls a=((Ie (Rt a).2).1,Ys):=by rw[Xr h]at *;rw[Ls,if_neg (fun k=>k h),if_pos h2]
theorem u1z{a:Aut}(h:(Rt a).1=0)(h2:(Ie (Rt a).2).1=0):Ls a=if Su (Ww (Ie (Rt a).2).2)then(5,Ys)else(0,Ww (Ie (Rt a).2).2):=by rw[Xr h]at *;rw[Ls,if_neg (fun k=>k h),if_neg (fun k=>k h2)]
theorem y0w{a:Aut}(z1:Wq a=0)(h:(Rt a).1=0)(h2:(Ie (Rt a).2).1=0):Dfa (Ie (Rt a).2).2:=by rw[Xr h]at *;exact(k1f ((O5 a).1 z1) (d:=(Rt a).2) (c:=(Pg (Rt a).2).2) (uv h rfl) (uv h2 rfl)).1
theorem j0v{a:Aut}(ha:Dfa a):Wq (Ww a)=0↔Su (Ww a)=false:=by rw[d0r (z0f ha),u00 ha]
end Go.Abs
