/- Part Ri of the proof: an abstract machine over the model, and what the functions of the program hand back in its terms. No condition. -/
import Derived.Test.YteghceocnldccaaGreatDoorRh
import Derived.Test.YteghceocnldccaaGreatDoorRg
import Derived.Test.YteghceocnldccaaGreatDoorRe
import Derived.Test.YteghceocnldccaaGreatDoorRf
import Derived.Test.YteghceocnldccaaGreatDoorRc
import Derived.Shelf.SlGeneric
import Derived.Ground.SlsfProg
import Derived.Shelf.SlSortCmp.WholeK
import Derived.Test.YteghceocnldccaaGreatDoorProg
import Derived.Test.YteghceocnldccaaGreatDoorRd
set_option linter.all false
open List renaming take_succ_eq_append_getElem→zU,map_append→yP,map_cons→yZ,map_nil→wG,mem_append→zW,mem_singleton→zQ,mem_map→zT,getElem_mem→zL,map→ws,take_length→yW,length_map→yB,nodup_append→vv,getElem?_append_left→zF,getElem?_eq_some_iff→zB,getElem?_append_right→zH,getElem?_eq_getElem→zK,getD→yX,take_of_length_le→zR,getElem?_set_self→zO,getElem?_set_ne→zE,filter_append→vQ,foldl_append→wL,mem_filter→xW,getElem_eq_iff→yQ,append_nil→xB,findIdx?_map→tw,range→yO,mem_range→y_,getElem?_map→zY,pairwise_map→wP,pairwise_iff_getElem→yU,take_zero→wJ,take_append_drop→xU,flatMap_append→wp,length_append→zZ,mem_of_mem_take→xS,map_map→vF,foldl_cons→xY,mem_cons→yE,ext_getElem?→xZ,getElem_inj→vT,getElem?_eq_none→xL,map_congr_left→xX,mem_of_getElem?→zJ,getElem?_mapIdx→vG,findIdx?_eq_none_iff→wY,mem_append_left→xA,append_assoc→xT,range_succ→wH,flatMap_def→tE,length_cons→yS,length_filter_le→wd,getElem?_zipIdx→th,mem_iff_getElem?→yJ,length_take→wn
open Bool renaming eq_iff_iff→wt,not_eq_true→uI
open Prod renaming ext→uB
open Nat renaming le_refl→zP,le_trans→yH,zero_le→xD,lt_of_lt_of_le→wB
open Option renaming map_eq_some_iff→zV
open Int renaming le_refl→xN
set_option maxHeartbeats 16000000
set_option linter.unusedSimpArgs false
set_option maxRecDepth 100000
namespace Go.Abs
open Go Go.Proofs Go.Maps Go.RowKit
attribute [simp] x2h x2o
abbrev PQ:=(Int×Int)×List Sy
def Sn(e:PQ):AV:= .agg [.i e.1.1,.i e.1.2,.list (e.2.map encSy)]
def P2(L:List PQ)(s:Int×Int):Bool:=decide (s∈L.map (·.1))
theorem x00{L:List PQ}{s:Int×Int}{j:Nat}(h:j<L.length):P2 (L.take (j+1)) s=(P2 (L.take j) s || decide (L[j].1=s)):=by unfold P2;rw[zU h,yP,yZ,wG,wt,Bool.or_eq_true,decide_eq_true_eq,decide_eq_true_eq,decide_eq_true_eq,zW,zQ];exact⟨fun k=>k.imp id Eq.symm,fun k=>k.imp id Eq.symm⟩
theorem u0h{L:List PQ}{s:Int×Int}{j:Nat}(h:j<L.length)(e:L[j].1=s):P2 L s=true:=by unfold P2;rw[decide_eq_true_eq];exact zT.2 ⟨_,zL h,e⟩
theorem y1k(L:List PQ)(s:Int×Int)(hl:L.length≤1000000):PC Tryz.prog 149 [.list (L.map Sn),.i s.1,.i s.2] (fun r=>r= .bool (P2 L s)):=by
 refine Qk tOk Tryz.func149 rfl Tryz.results149 rfl (by simp[Tryz.ntmps149]) ?_;rw[Tryz.ntmps149];simp only[Qg];repeat first|(refine r_ ?_;simp)|refine q_ ?_
 refine Qt L.length (fun j=>P2 (L.take j) s=false) (fun j=>[(0,.list (L.map Sn)),(1,.i s.1),(2,.i s.2),(6,.bool false),(7,.i j)]) (fun _=>[]) rfl (by simp) (by simp) (by simp) (by simp) (by simp[P2]) ?_;intro j hj hI ih;repeat first|(refine r_ ?_;simp)|refine q_ ?_
 refine Qa rfl (fun zd=> ?_) (fun ze=> ?_)
 ·have z1:j<L.length:=by simpa using zd
  have hw:IntKind.i64.wrap ((j:Int)+1)=j+1:=wrap_i64 _ (by omega) (by omega);have z6:(ws Sn L)[j]? =some (Sn L[j]):=by simp[z1]
  have z7:∀hh,(ws Sn L)[j]'hh=Sn L[j]:=fun hh=>by simp
  have z8:=x00 (s:=s) z1;have zf:=u0h (s:=s) z1;rw[hI,Bool.false_or]at z8;generalize L[j]=e at *;simp only[Sn]at z6 z7
  by_cases h1:e.1.1=s.1
  ·have za:(e.1.1==s.1)=true:=by simpa using h1
   repeat first|(refine r_ ?_;simp[z1,z6,z7,za])|refine q_ ?_
   refine Qa rfl (fun h2=> ?_) (fun h2=> ?_)
   ·have:e.1=s:=uB h1 (by simpa using h2);rw[zf this];repeat first|(refine r_ ?_;simp)|refine q_ ?_
   ·have zb:e.1≠s:=fun k=>by simp[k]at h2
    repeat first|(refine r_ ?_;simp[hw])|refine q_ ?_
    refine Qr _ (ih z1 (by rw[z8,decide_eq_false zb])) rfl (by simp) ?_ (by simp) (by simp);simp
  ·have za:(e.1.1==s.1)=false:=by simpa using h1
   have zb:e.1≠s:=fun k=>h1 (by rw[k]);repeat first|(refine r_ ?_;simp[z1,z6,z7,za])|refine q_ ?_
   refine Qa rfl (fun h2=>by simp at h2) (fun h2=> ?_);repeat first|(refine r_ ?_;simp[hw])|refine q_ ?_
   refine Qr _ (ih z1 (by rw[z8,decide_eq_false zb])) rfl (by simp) ?_ (by simp) (by simp);simp
 ·have zc:j=L.length:=by simp at ze;omega
  subst zc;rw[yW]at hI;rw[hI];repeat first|(refine r_ ?_;simp)|refine q_ ?_
structure PInv (a b:Aut) (L:List PQ):Prop where
 nd:(L.map (·.1)).Nodup
 rng:∀e∈L,inS a e.1.1∧inS b e.1.2
 wl:∀(i:Nat) (e:PQ),L[i]? =some e→e.2.length≤i
theorem PInv.len{a b:Aut}{L:List PQ}(h:PInv a b L):L.length≤a.fin.length * b.fin.length:=by
 have e:L.length=(L.map (·.1)).length:=by rw[yB]
 rw[←Ob,e];refine Un _ _ h.nd fun x hx=> ?_;obtain⟨e,he,rfl⟩:=zT.1 hx;exact Au (h.rng e he).1 (h.rng e he).2
theorem PInv.add{a b:Aut}{L:List PQ}(h:PInv a b L){t:Int×Int}{w:List Sy}(ht:inS a t.1∧inS b t.2)(hw:w.length≤L.length)(hn:P2 L t=false):PInv a b (L++[(t,w)]):=by
 have z1:t∉L.map (·.1):=by simpa[P2]using hn
 refine⟨?_,fun e he=> ?_,fun i e he=> ?_⟩
 ·rw[yP,vv];refine⟨h.nd,by simp,fun x hx y hy e=> ?_⟩;simp only[yZ,wG,zQ]at hy;exact z1 (by rw[←hy,←e];exact hx)
 ·rcases zW.1 he with he|he
  ·exact h.rng e he
  ·rw[zQ.1 he];exact ht
 ·by_cases hi:i<L.length
  ·rw[zF hi]at he;exact h.wl i e he
  ·have z6:=zB.1 he |>.1;have:i=L.length:=by simp at z6;omega
   subst this;rw[zH (zP _)]at he;simp at he;rw[←he];exact hw
theorem f1n(L:List PQ)(t:Int×Int)(w:List Sy):z1z L t w=if P2 L t=true then L else L++[(t,w)]:=by
 unfold z1z;by_cases h:t∈L.map (·.1)
 ·rw[if_pos h,if_pos (by simpa[P2]using h)]
 ·rw[if_neg h,if_neg (by simpa[P2]using h)]
theorem j0g{good:Int×Int→Bool}{succ:Int×Int→List (Sy×(Int×Int))}{f n:Nat}{L:List PQ}(h:L[n]? =none):Bz good succ f n L=(none,L):=by
 cases f with
 |zero=>rw[Bz]
 |succ f=>rw[Bz,h]
theorem u0y{good:Int×Int→Bool}{succ:Int×Int→List (Sy×(Int×Int))}{f n:Nat}{L:List PQ}{s:Int×Int}{w:List Sy}(h:L[n]? =some (s,w)):Bz good succ (f+1) n L=if good s=true then(some w,L)else Bz good succ f (n+1) (Uk L w (succ s)):=by rw[Bz,h]
theorem Ml(L:List PQ)(w:List Sy)(e:Sy×(Int×Int))(es:List (Sy×(Int×Int))):Uk L w (e::es)=Uk (z1z L e.2 (w++[e.1])) w es:=rfl
theorem u0c{a b:Aut}{s:Int×Int}{k:Nat}(h:k<(Eb a b).length):(Ut a b s).drop k=((Eb a b)[k],Ts a b s (Eb a b)[k])::(Ut a b s).drop (k+1):=by
 have hk:k<(Ut a b s).length:=by simpa[Ut]using h
 rw[List.drop_eq_getElem_cons hk];simp[Ut]
theorem g07{a b:Aut}(s:Int×Int):(Ut a b s).length=(Eb a b).length:=by simp[Ut]
theorem v0u(L:List PQ)(w:List Sy):Uk L w ([]:List (Sy×(Int×Int)))=L:=rfl
def w2n(r:Option (List Sy)):AV:= .tup [LSy (r.getD []),.bool r.isSome]
theorem j0p(a b:Aut)(p q:Int):I8 a b p q=Bz (R0 a b) (Ut a b) (a.fin.length * b.fin.length+1) 0 [((p,q),[])]:=rfl
theorem Kb{a b:Aut}(ha:OkA a)(hb:OkA b)(ht:b.types=a.types){x:Sy}(hx:x∈Eb a b):Rm a x:=by have:=(Z4 ha hb ht (0,0)).mem (x,Ts a b (0,0) x) (zT.2 ⟨x,hx,rfl⟩);exact this.1
theorem Jh{a b:Aut}(ha:OkA a)(hb:OkA b)(ht:b.types=a.types):(Eb a b).length≤40000000:=by obtain⟨z1,z6⟩:=c07 ha hb ht;have:=(D8 (T:=a.types.toNat) (by have:=ha.types;omega) (by have:=ha.types;omega) z1 z6).1;unfold Eb;simpa using this
attribute [local irreducible] Eb toL Bz Uk Ut P2 R0 I8
theorem v0l(a b:Aut)(ha:Dfa a)(hb:Dfa b)(ht:b.types=a.types)(p q:Int)(hp:inS a p)(hq:inS b q):PC Tryz.prog 91 [encA a,encA b,.i p,.i q] (fun r=>r=w2n (I8 a b p q).1):=by
 refine Qk tOk Tryz.func91 rfl Tryz.results91 rfl (by simp[Tryz.ntmps91]) ?_;rw[Tryz.ntmps91];simp only[Qg];simp only[encA];have zu:=ha.ok.fin;have zy:=hb.ok.fin;have yj:=ha.ok.mvs;have yk:=hb.ok.mvs;have zg:=fun x hx=>Kb ha.ok hb.ok ht (x:=x) hx;have y2:=Jh ha.ok hb.ok ht;rw[j0p];obtain⟨R,hR⟩:∃R,Bz (R0 a b) (Ut a b) (a.fin.length * b.fin.length+1) 0 [((p,q),[])]=R:=⟨_,rfl⟩
 rw[hR];have y3:∀s,(Ut a b s).length=(Eb a b).length:=fun s=>g07 s;have y4:=fun s k h=>u0c (a:=a) (b:=b) (s:=s) (k:=k) h;repeat first|(refine r_ ?_;simp)|refine q_ ?_
 refine Qe rfl rfl (by simp) (Gd a b ha.ok hb.ok ht) rfl ?_;rintro _ rfl;simp;generalize Eb a b=ls at *
 repeat first|(refine r_ ?_;simp)|refine q_ ?_
 have y5:PInv a b [((p,q),[])]:=⟨by simp,fun e he=>by rw[zQ.1 he];exact⟨hp,hq⟩,fun i e he=>by
  have zf:=zB.1 he |>.1;have:i=0:=by simp at zf;omega
  subst this;simp at he;rw[←he];simp⟩
 refine Kl 2 rfl ?_;simp[AV.nrm];obtain⟨N,hN⟩:∃N,N=a.fin.length * b.fin.length:=⟨_,rfl⟩
 have ym:N≤65536:=by rw[hN];exact yH (Nat.mul_le_mul zu.2 zy.2) (by decide)
 rw[←hN]at hR;have zh:=fun L h=>PInv.len (a:=a) (b:=b) (L:=L) h;rw[←hN]at zh;refine Qo (Qc (sl':=[(4,.vptr 0 0),(5,.vptr 1 0),(8,.nils),(9,.bool false),(10,.list (ls.map encSy)),(11,.sl 2 3 0 ([((p,q),[])]:List PQ).length),(12,.i (0:Nat))]) ?_ (by simp));refine Qn (F:=fun(u:Nat×Nat×List PQ×List AObj)=>⟨[(4,.vptr 0 0),(5,.vptr 1 0),(8,.nils),(9,.bool false),(10,.list (ls.map encSy)),(11,.sl u.2.1 3 0 u.2.2.1.length),(12,.i u.1)],u.2.2.2⟩)
  (fun u=>u.1≤u.2.2.1.length∧PInv a b u.2.2.1∧u.2.2.2[0]? =some (.vars (Q4 a))∧u.2.2.2[1]? =some (.vars (Q4 b))∧u.2.2.2[u.2.1]? =some (.arr 204 3 (u.2.2.1.map Sn))∧Bz (R0 a b) (Ut a b) (N+1 - u.1) u.1 u.2.2.1=R) (fun u=>N+1 - u.1) ?_ (0,2,[((p,q),[])],_) ⟨by simp,y5,rfl,rfl,rfl,hR⟩
 rintro⟨n,l,L,H⟩ ⟨hn,hP,h0,h1,hl,hB⟩ ih;simp only at hn hP h0 h1 hl hB ih ⊢;have y6:=zh L hP;repeat first|(refine r_ ?_;simp)|refine q_ ?_
 refine Qa rfl (fun zf=> ?_) (fun y7=> ?_)
 ·have z7:n<L.length:=by simpa using zf
  have hw:IntKind.i64.wrap ((n:Int)+1)=n+1:=wrap_i64 _ (by omega) (by omega);have zi:L[n]? =some L[n]:=zK z7;have zb:=hP.rng _ (zL z7);have y8:=hP.wl n _ zi;have z8:(ws Sn L)[n]? =some (Sn L[n]):=by simp[z7]
  have za:∀hh,(ws Sn L)[n]'hh=Sn L[n]:=fun hh=>by simp
  generalize L[n]=e at *
  obtain⟨⟨s,t⟩,w⟩:=e;simp only[Sn]at z8 za zb y8;rw[show N+1 - n=(N - n)+1 by omega,u0y zi]at hB;repeat first|(refine r_ ?_;simp[hl,z8,za,z7])|refine q_ ?_
  refine Wb fun Z hZ=> ?_;have z0:Z[0]? =some (.vars (Q4 a)):=by rw[hZ];exact Qb h0 _
  have z1:Z[1]? =some (.vars (Q4 b)):=by rw[hZ];exact Qb h1 _
  have zl:Z[l]? =some (.arr 204 3 (L.map Sn)):=by rw[hZ];exact Qb hl _
  have zx:Z[H.length]? =some (.vars [.i s,.i t,.list (w.map encSy)]):=by rw[hZ,zH (by simp)];simp
  clear hZ h0 h1 hl;generalize H.length=x at *;clear H
  obtain⟨zj,zk⟩:=zb;obtain⟨i,rfl⟩:∃i:Nat,s=i:=⟨s.toNat,(Ab zj).2.symm⟩
  obtain⟨j,rfl⟩:∃j:Nat,t=j:=⟨t.toNat,(Ab zk).2.symm⟩
  have hi:i<a.fin.length:=by have:=zj.2;omega
  have hj:j<b.fin.length:=by have:=zk.2;omega
  have zp:R0 a b ((i:Int),(j:Int))=(a.fin[i] != b.fin[j]):=by unfold R0;simp[yX,hi,hj]
  rw[zp]at hB;refine Qm tOk mixed [] (.val 0 (.val 1 (.val 2 (.val 3 (.val 4 (.val 5 (.val 6 (.val 7 (.val 8 (.val 9 (.val 10 (.val 11 (.val 12 (.done)))))))))))))) rfl (by kernel_rfl) ?_;simp[z0,z1,zx,hi,hj];refine Qa rfl (fun hd=> ?_) (fun hd=> ?_)
  ·rw[if_pos (by simpa using hd)]at hB;rw[←hB];repeat first|(refine r_ ?_;simp[zx])|refine q_ ?_
   rfl
  ·rw[if_neg (by simpa using hd)]at hB;repeat first|(refine r_ ?_;simp)|refine q_ ?_
   refine Qo (Qc (sl':=[(4,.vptr 0 0),(5,.vptr 1 0),(8,.nils),(9,.bool false),(10,.list (ls.map encSy)),(11,.sl l 3 0 L.length),(12,.i n),(13,.vptr x 0),(14,.i (0:Nat))]) ?_ (by simp));refine Qn (F:=fun(u:Nat×Nat×List PQ×List AObj)=>⟨[(4,.vptr 0 0),(5,.vptr 1 0),(8,.nils),(9,.bool false),(10,.list (ls.map encSy)),(11,.sl u.2.1 3 0 u.2.2.1.length),(12,.i n),(13,.vptr x 0),(14,.i u.1)],u.2.2.2⟩)
    (fun u=>u.1≤ls.length∧n<u.2.2.1.length∧PInv a b u.2.2.1∧u.2.2.2[0]? =some (.vars (Q4 a))∧u.2.2.2[1]? =some (.vars (Q4 b))∧u.2.2.2[u.2.1]? =some (.arr 204 3 (u.2.2.1.map Sn))∧u.2.2.2[x]? =some (.vars [.i i,.i j,.list (w.map encSy)])∧Bz (R0 a b) (Ut a b) (N - n) (n+1) (Uk u.2.2.1 w ((Ut a b ((i:Int),(j:Int))).drop u.1))=R) (fun u=>ls.length - u.1) ?_ (0,l,L,Z) ⟨by simp,z7,hP,z0,z1,zl,zx,by rw[List.drop_zero];exact hB⟩
   clear z0 z1 zl zx hB hP z7 zi z8 za y6 zf hd zp hi hj;clear hn;rintro⟨k,l2,L2,G⟩ ⟨hk,zq,zc,g0,g1,gl,gx,hB⟩ ih2;simp only at hk zq zc g0 g1 gl gx hB ih2 ⊢;have y9:=zh L2 zc;repeat first|(refine r_ ?_;simp)|refine q_ ?_
   refine Qa rfl (fun zm=> ?_) (fun zn=> ?_)
   ·have z6:k<ls.length:=by simpa using zm
    have zr:IntKind.i64.wrap ((k:Int)+1)=k+1:=wrap_i64 _ (by omega) (by omega);rw[y4 _ k z6,Ml,f1n]at hB;have zt:=zg _ (zL z6);have z8:(ws encSy ls)[k]? =some (encSy ls[k]):=by simp[z6]
    have za:∀hh,(ws encSy ls)[k]'hh=encSy ls[k]:=fun hh=>by simp
    generalize ls[k]=y at *
    have ya:Ts a b ((i:Int),(j:Int)) y=(toL a i y,toL b j y):=rfl;simp only[ya]at hB;have yb:=(ha.next zj zt).1;have yc:=(hb.next zk (by unfold Rm at *;rw[ht];exact zt)).1;simp only[encSy]at z8 za;repeat first|(refine r_ ?_;simp)|refine q_ ?_
    refine Qm tOk mixed [] (.val 0 (.val 1 (.val 2 (.val 3 (.val 4 (.val 5 (.val 6 (.val 8 (.val 9 (.val 10 (.val 11 (.val 12 (.val 13 (.val 14 (.one 7 (.one 15 (.val 16 (.val 17 (.done))))))))))))))))))) rfl (by kernel_rfl) ?_;simp[g0,g1,gx,z6,z8,za];refine Qe rfl rfl (by simp) (w05 a ha.ok i y) rfl ?_;rintro _ rfl;simp[g0,g1,gx,z6,z8,za];refine Qe rfl rfl (by simp) (w05 b hb.ok j y) rfl ?_;rintro _ rfl;simp[g0,g1,gx,z6,z8,za];generalize toL a i y=s2 at *;generalize toL b j y=t2 at *
    have zd:(ws Sn L2).length=L2.length:=by simp
    have zo:List.take L2.length (ws Sn L2)=ws Sn L2:=zR (by simp);repeat first|(refine r_ ?_;simp)|refine q_ ?_
    refine D2 rfl rfl (by first|(simp[gl,zo,zd];done)|(simp[gl,zo,zd];rfl)) (y1k L2 (s2,t2) (by omega)) rfl ?_;rintro _ rfl;refine⟨by first|simp|rfl|trivial,?_⟩;simp[gl,zo,zd];cases hky:P2 L2 (s2,t2)with
    |true=>
     rw[if_pos hky]at hB;refine Ql rfl ?_;repeat first|(refine r_ ?_;simp[zr])|refine q_ ?_
     refine Qc (sl':=[(4,.vptr 0 0),(5,.vptr 1 0),(8,.nils),(9,.bool false),(10,.list (ls.map encSy)),(11,.sl l2 3 0 L2.length),(12,.i n),(13,.vptr x 0),(14,.i (k+1:Nat))]) ?_ (by simp);exact ih2 (k+1,l2,L2,G) ⟨by omega,zq,zc,g0,g1,gl,gx,hB⟩ (by omega)
    |false=>
     rw[if_neg (by rw[hky];simp)]at hB;have yd:=zc.add ⟨yb,yc⟩ (w:=w++[y]) (by simp;omega) hky;refine Ql rfl ?_;repeat first|(refine r_ ?_;simp[gx])|refine q_ ?_
     refine Qf tOk rfl rfl T45 rfl T53 rfl (by decide) (by decide) rfl rfl rfl ?_;simp;refine⟨⟨fun v hv=> ?_,by simp;omega⟩,?_⟩
     ·obtain⟨c',_,rfl⟩:=zT.1 hv;exact⟨rfl,rfl⟩
     repeat first|(refine r_ ?_;simp[z8,za,z6])|refine q_ ?_
     refine Qf tOk rfl rfl T45 rfl T53 rfl (by decide) (by decide) rfl rfl rfl ?_;simp;refine⟨by simp[Wi]<;>omega,?_⟩;refine Tz fun Z hZ=> ?_;have zz:Z.length=G.length+4:=by rw[hZ];simp
     have z0:Z[0]? =some (.vars (Q4 a)):=by rw[hZ];exact Qb g0 _
     have z1:Z[1]? =some (.vars (Q4 b)):=by rw[hZ];exact Qb g1 _
     have zl:Z[l2]? =some (.arr 204 3 (L2.map Sn)):=by rw[hZ];exact Qb gl _
     have zx:Z[x]? =some (.vars [.i i,.i j,.list (w.map encSy)]):=by rw[hZ];exact Qb gx _
     have zw:Z[G.length+2]? =some (.arr 53 2 (w.map encSy++[.agg [.i y.ty,.i y.num]])):=by rw[hZ,zH (by omega)];simp
     have zv:Z[G.length+3]? =some (.va 204 3 [.agg [.i s2,.i t2,.sl (G.length+2) 2 0 (w.length+1)]]):=by rw[hZ,zH (by omega)];simp
     have yn:=Qh gl;have yo:=Qh gx;have g1t:=Qh g1;clear hZ g0 g1 gl gx;generalize G.length=m at *;clear G;refine Xq (m+2) zw (m+3) zv (by omega) rfl ?_
     simp[AObj.fz,AV.fz];rw[zR (by simp)];refine Nl (m+3) (e:=204) (c:=3) (xs:=[Sn ((s2,t2),w++[y])]) (by rw[zO (by simp;omega)];simp[Sn]) (by simp[AV.cells,AV.pure,Sn]) ?_;refine Tz fun Y hY=> ?_;have yy:Y.length=m+4:=by rw[hY];simp[zz]
     have y0:Y[0]? =some (.vars (Q4 a)):=by rw[hY,zE (by omega),zE (by omega),zE (by omega)];exact z0
     have y1:Y[1]? =some (.vars (Q4 b)):=by rw[hY,zE (by omega),zE (by omega),zE (by omega)];exact z1
     have yl:Y[l2]? =some (.arr 204 3 (L2.map Sn)):=by rw[hY,zE (by omega),zE (by omega),zE (by omega)];exact zl
     have yx:Y[x]? =some (.vars [.i i,.i j,.list (w.map encSy)]):=by rw[hY,zE (by omega),zE (by omega),zE (by omega)];exact zx
     have yv:Y[m+3]? =some (.arr 204 3 [Sn ((s2,t2),w++[y])]):=by rw[hY,zO (by simp;omega)]
     have yp:l2≠m+3:=by omega
     have ye:l2≠0:=fun e=>by rw[e,y0]at yl;simp at yl
     have yf:l2≠1:=fun e=>by rw[e,y1]at yl;simp at yl
     have yg:l2≠x:=fun e=>by rw[e,yx]at yl;simp at yl
     clear hY z0 z1 zl zx zw zv zz;clear Z;generalize m+3=v at *;refine Qf tOk rfl rfl x2o rfl x2h rfl (by decide) (by decide) rfl rfl rfl ?_
     simp[Qb yl,Qj yl,yl,yv,zd,Sn];refine⟨by simp[Wi,Qb yl,Qj yl,yl,yv,zd,Sn]<;>omega,?_⟩;repeat first|(refine r_ ?_;simp[zr])|refine q_ ?_
     refine Qc (sl':=[(4,.vptr 0 0),(5,.vptr 1 0),(8,.nils),(9,.bool false),(10,.list (ls.map encSy)),(11,.sl Y.length 3 0 (L2.length+1)),(12,.i n),(13,.vptr x 0),(14,.i (k+1:Nat))]) ?_ (by simp);have:=ih2 (k+1,Y.length,L2++[((s2,t2),w++[y])],(Y.set l2 .dead)++[.arr 204 3 ((L2++[((s2,t2),w++[y])]).map Sn)]) ⟨by omega,by simp;omega,yd,Qb (Qd ye y0 _) _,Qb (Qd yf y1 _) _,by rw[zH (by simp)];simp,Qb (Qd yg yx _) _,hB⟩ (by simp only;omega);simpa[Sn]using this
   ·have ze:k=ls.length:=by simp at zn;omega
    subst ze;have yh:(Ut a b ((i:Int),(j:Int))).length=ls.length:=y3 _;rw[List.drop_eq_nil_of_le (Nat.le_of_eq yh),v0u]at hB;repeat first|(refine r_ ?_;simp[hw])|refine q_ ?_
    refine Qc (sl':=[(4,.vptr 0 0),(5,.vptr 1 0),(8,.nils),(9,.bool false),(10,.list (ls.map encSy)),(11,.sl l2 3 0 L2.length),(12,.i (n+1:Nat))]) ?_ (by simp);exact ih (n+1,l2,L2,G) ⟨by simp only;omega,zc,g0,g1,gl,by rw[show N+1 - (n+1)=N - n by omega];exact hB⟩ (by simp only;omega)
 ·have yi:n=L.length:=by simp at y7;omega
  rw[j0g (by rw[List.getElem?_eq_none_iff];omega)]at hB;rw[←hB];repeat first|(refine r_ ?_;simp)|refine q_ ?_
  rfl
end Go.Abs
namespace Go.Abs
open Go Go.Proofs Go.Maps Go.RowKit
instance inS_dec (a:Aut) (s:Int):Decidable (inS a s):=by unfold inS;exact inferInstance
def v1u(a:Aut)(p q:Int):Option (List Sy)×Int:=if Tf a≠0 then(none,Tf a)else if inS a p∧inS a q then((I8 a a p q).1,0)else(none,6)
def f1m(r:Option (List Sy)×Int):AV:= .tup [LSy (r.1.getD []),.bool r.1.isSome,.i r.2]
attribute [local irreducible] Tf I8
abbrev Ye (l:List Nat):List Int:=l.map fun x:Nat=>(x:Int)
attribute [local irreducible] eqS x2t
def k1o(a:Aut):List Int×Int:=if Tf a≠0 then([],Tf a)else(Ye (clA a),0)
end Go.Abs
namespace Go.Abs
open Go Go.Proofs Go.Maps Go.RowKit
def bst(near:Ip)(d:Nat)(pre:List Stp):Option Stp:=j0h (pre.filter fun e=>decide (lkN near e.2=some d))
def k1v(near:Ip)(d:Nat)(b:Option Stp)(e:Stp):Option Stp:=if lkN near e.2=some d then(match b with|none=>some e|some c=>if Zg e.1 c.1 then some e else some c)else b
theorem j0e(near:Ip)(d:Nat):bst near d []=none:=rfl
theorem w1d(near:Ip)(d:Nat)(pre:List Stp)(e:Stp):bst near d (pre++[e])=k1v near d (bst near d pre) e:=by
 unfold bst k1v j0h;rw[vQ,wL];by_cases h:lkN near e.2=some d
 ·rw[if_pos h];have:[e].filter (fun e=>decide (lkN near e.2=some d))=[e]:=by simp[h]
  rw[this];rfl
 ·rw[if_neg h];have:[e].filter (fun e=>decide (lkN near e.2=some d))=[]:=by simp[h]
  rw[this];rfl
theorem k12{near:Ip}{d:Nat}{es:List Stp}{e:Stp}(h:bst near d es=some e):e∈es:=by
 have z1:es.filter (fun e=>decide (lkN near e.2=some d))≠[]:=fun k=>by rw[bst,k]at h;cases h
 obtain⟨f,h1,h2,_⟩:=Bj z1;rw[bst,h1]at h;cases h;exact(xW.1 h2).1
def d1b(b:Option Stp):List AV:=match b with
 |some e=>[.i e.1.ty,.i e.1.num,.i e.2.1,.i e.2.2]
 |none=>[.i 0,.i 0,.i 0,.i 0]
theorem v00(a:Aut)(near:Ip)(s:Int×Int):Yo a near 0 s=[]:=by rw[Yo]
def f1w(b:Option Stp):Int×Int:=match b with
 |some e=>e.2
 |none=>(0,0)
def d1a(b:Option Stp):Sy:=match b with
 |some e=>e.1
 |none=>⟨0,0⟩
theorem x0j(a:Aut)(near:Ip)(d:Nat)(s:Int×Int):Yo a near (d+1) s=d1a (bst near d (Wo a a s))::Yo a near d (f1w (bst near d (Wo a a s))):=by rw[Yo];unfold bst;cases j0h ((Wo a a s).filter fun e=>decide (lkN near e.2=some d))<;>rfl
theorem q24{a:Aut}{near:Ip}(h:NB a near)(s:Int×Int):(lkN near s).getD 0≤1000000:=by
 cases hl:lkN near s with
 |none=>simp
 |some k=>unfold lkN at hl;obtain⟨e,he,rfl⟩:=zV.1 hl;exact h.bd e (List.mem_of_find?_eq_some he)
theorem Pt(b:Option Stp):d1b b=[.i (d1a b).ty,.i (d1a b).num,.i (f1w b).1,.i (f1w b).2]:=by cases b<;>rfl
attribute [local irreducible] Q1 Eh Rt Wo R0 lkN bst Yo Zg
theorem k09(a:Aut)(ha:OkA a)(H:List AObj)(M:Nat)(near:Ip)(hM:H[M]? =some (mpN near))(hb:NB a near)(p q:Int)(hp:inS a p)(hq:inS a q):
  FC Tryz.prog 90 [Ei a,.mref M,.i p,.i q] H (fun r H'=>r=LSy (Yo a near ((lkN near (p,q)).getD 0) (p,q))∧∀i,i<H.length→H'[i]? =H[i]?):=by
 refine W6 tOk Tryz.func90 rfl Tryz.results90 rfl (by simp[Tryz.ntmps90]) ?_;rw[Tryz.ntmps90];simp only[Qg];simp only[Ei,Q6];have zl:=ha.fin;have y3:=Qh hM;repeat first|(refine r_ ?_;simp)|refine q_ ?_
 refine Ce rfl rfl rfl rfl (s:=(p,q)) rfl (near:=near) (Qb hM _) hb.nk (Sb ha ha ⟨hp,hq⟩) ?_;simp;have y4:=q24 hb (p,q);generalize (lkN near (p,q)).getD 0=d at *
 repeat first|(refine r_ ?_;simp)|refine q_ ?_
 refine Qz (sl':=[(2,.i p),(3,.i q),(4,.vptr H.length 0),(5,.vptr (H.length+1) 0),(8,.nils),(9,.nils),(10,.vptr (H.length+2) 0)]) ?_ (by simp);refine Q8 9 53 2 rfl ?_;simp;obtain⟨K,hK⟩:∃K,K=H++[AObj.vars (Q6 a),.vars [.mref M]]:=⟨_,rfl⟩
 have y5:K.length=H.length+2:=by rw[hK];simp
 have KA:K[H.length]? =some (.vars (Q6 a)):=by rw[hK,zH (by omega)];simp
 have KN:K[H.length+1]? =some (.vars [.mref M]):=by rw[hK,zH (by omega)];simp
 have KM:K[M]? =some (mpN near):=by rw[hK];exact Qb hM _
 have Kk:∀i,i<H.length→K[i]? =H[i]? :=fun i hi=>by rw[hK,zF hi]
 refine Wb fun Z hZ=> ?_;have zS:SL K Z (H.length+3) 53 2 (([]:List Sy).map encSy):=by
  rw[hZ];refine⟨by rw[zH (by omega)];simp,by omega,fun j hj=> ?_⟩;rw[hK];by_cases h:j<H.length
  ·rw[zF h,zF h]
  ·rw[zH (by omega),zH (by omega)];obtain rfl|rfl:j=H.length∨j=H.length+1:=by omega
   ·simp[Q6]
   ·simp
 have zD:Z[H.length+2]? =some (.vars [.i d]):=by rw[hZ,zH (by omega)];simp
 clear hZ;obtain⟨W,hW⟩:∃W,Yo a near d (p,q)=W:=⟨_,rfl⟩
 rw[hW];refine Qo (Qc (sl':=[(2,.i p),(3,.i q),(4,.vptr H.length 0),(5,.vptr (H.length+1) 0),(8,.nils),(9,.sl (H.length+3) 2 0 ([]:List Sy).length),(10,.vptr (H.length+2) 0)]) ?_ (by simp));refine Qn (P:=Tryz.prog) (F:=fun(u:Nat×List Sy×(Int×Int)×Nat×Nat×List AObj)=>⟨[(2,.i u.2.2.1.1),(3,.i u.2.2.1.2),(4,.vptr H.length 0),(5,.vptr (H.length+1) 0),(8,.nils),(9,.sl u.2.2.2.1 2 0 u.2.1.length),(10,.vptr u.2.2.2.2.1 0)],u.2.2.2.2.2⟩)
  (fun u=>u.2.1.length+u.1=d∧W=u.2.1++Yo a near u.1 u.2.2.1∧inS a u.2.2.1.1∧inS a u.2.2.1.2∧SL K u.2.2.2.2.2 u.2.2.2.1 53 2 (u.2.1.map encSy)∧u.2.2.2.2.2[u.2.2.2.2.1]? =some (.vars [.i u.1])∧K.length≤u.2.2.2.2.1) (fun u=>u.1) ?_ (d,[],(p,q),H.length+3,H.length+2,Z) ⟨by simp,by simpa using hW.symm,hp,hq,zS,zD,by simp only;omega⟩
 clear zS zD hW hp hq;clear Z;rintro⟨e,w,s,q',D,G⟩ ⟨zm,za,zf,zg,hs,gD,zn⟩ ih;simp only at zm za zf zg hs gD zn ih ⊢;have gA:=hs.kp KA;have gN:=hs.kp KN;have gM:=hs.kp KM;have gk:∀i,i<H.length→G[i]? =H[i]? :=fun i hi=>(hs.keep i (by omega)).trans (Kk i hi);repeat first|(refine r_ ?_;simp[gD])|refine q_ ?_
 refine Qa rfl (fun zo=> ?_) (fun zp=> ?_)
 ·obtain⟨e,rfl⟩:∃f,e=f+1:=⟨e - 1,by simp at zo;omega⟩
  rw[x0j]at za;have hw:IntKind.i64.wrap ((e:Int)+1 - 1)=e:=by rw[show(e:Int)+1 - 1=e by omega];exact wrap_i64 _ (by omega) (by omega)
  have z8:IntKind.i64.wrap (e:Int)=e:=wrap_i64 _ (by omega) (by omega);have gA2:∀L,(G++L)[H.length]? =some (.vars [.i a.types,.list (a.fin.map .bool),.list (a.mv.map encMv),.list (Rt a)]):=fun L=>Qb gA L;repeat first|(refine r_ ?_;simp[gA2])|refine q_ ?_
  refine Qe rfl rfl (by simp) (q0v a a s.1 s.2) rfl ?_;rintro _ rfl;simp;repeat first|(refine r_ ?_;simp)|refine q_ ?_
  obtain⟨best,z7⟩:∃best,bst near e (Wo a a s)=best:=⟨_,rfl⟩
  refine Eo rfl (Rf:=fun _ H'=>(∃sl' zd a' b',H'[G.length+2]? =some (.lp true none 71 sl' zd a' b'))∧H'[G.length]? =some (.vars (d1b best))∧∀i,i<G.length→H'[i]? =G[i]?) ?_ ?_
  ·simp;refine Ha fun H1 zb=> ?_;have f0:H1[G.length]? =some (.vars (d1b none)):=by rw[zb,zH (by omega)];simp[d1b]
   have f1:H1[G.length+1]? =some (.vars [.bool false]):=by rw[zb,zH (by omega)];simp
   have fk:∀i,i<G.length→H1[i]? =G[i]? :=fun i hi=>by rw[zb,zF hi]
   have fl:=congrArg (fun h:List AObj=>h[G.length+2]?) zb;have y6:H1.length=G.length+3:=by rw[zb];simp
   simp at fl;clear zb;refine FC.mono (Vc a a ha ha rfl s.1 s.2 zf zg (G.length+2) (by rfl) (by rfl)
    (fun pre H'=>H'[G.length+2]? =H1[G.length+2]? ∧H'[G.length]? =some (.vars (d1b (bst near e pre)))∧H'[G.length+1]? =some (.vars [.bool (bst near e pre).isSome])∧∀i,i<G.length→H'[i]? =G[i]?)
    (fun c H'=>False) H1
    (fun k H' ⟨h2,_,_,_⟩=>h2.trans fl) ?_ ?_ ⟨rfl,by rw[j0e];exact f0,by rw[j0e];exact f1,fk⟩) ?_
   ·rintro k H' L ⟨h2,h3,h5,h4⟩;exact⟨by rw[←h2,zF (by rw[fl]at h2;exact Qh h2)],Qb h3 _,Qb h5 _,fun i hi=>by rw[zF (by have:=Qh h3;omega)];exact h4 i hi⟩
   ·rintro pre x post H' zq ⟨h2,h3,h5,h4⟩ hlen;simp[Tn];have zr:=Zp ha ha (show x∈Wo a a s by rw[zq];simp);have zt:=Sb ha ha zr;have y7:=Qh (h2.trans fl);have z6:=w1d near e pre x;have zz:=Qi (h2.trans fl) .dead;have z0:(H'.set (G.length+2) .dead)[G.length]? =some (.vars (d1b (bst near e pre))):=Qd (j:=G.length+2) (by omega) h3 _;have z1:(H'.set (G.length+2) .dead)[G.length+1]? =some (.vars [.bool (bst near e pre).isSome]):=Qd (j:=G.length+2) (by omega) h5 _;have zk:∀i,i<G.length→(H'.set (G.length+2) .dead)[i]? =G[i]? :=fun i hi=>by rw[zE (by omega)];exact h4 i hi
    have zv:∀i cs,H1.length≤i→H'[i]? =some (.vars cs)→(H'.set (G.length+2) .dead)[i]? =some (.vars cs):=fun i cs hi hc=>by rw[zE (by omega)];exact hc
    have zu:(H'.set (G.length+2) .dead).length=H'.length:=by simp
    rw[←zu];generalize H'.set (G.length+2) .dead=Z at *
    have zN:=(zk _ (Qh gN)).trans gN;have zM:=(zk _ (Qh gM)).trans gM;have zD:=(zk _ (Qh gD)).trans gD;have zNA:∀L,(Z++L)[H.length+1]? =some (.vars [.mref M]):=fun L=>Qb zN L;have zDA:∀L,(Z++L)[D]? =some (.vars [.i ((e:Int)+1)]):=fun L=>Qb zD L;have z1A:∀L,(Z++L)[G.length+1]? =some (.vars [.bool (bst near e pre).isSome]):=fun L=>Qb z1 L;simp only[j1u];repeat first|(refine r_ ?_;simp[zNA,zDA])|refine q_ ?_
    refine Tt rfl rfl rfl rfl (s:=x.2) rfl (near:=near) (Qb zM _) hb.nk zt ?_;simp;unfold k1v at z6;rw[Pt]at z0;have z0A:=fun L=>Qb z0 L;have z0H:=fun L hh=>(yQ hh).2 (z0A L);have z1H:∀L hh,(Z++L)[G.length+1]'hh= .vars [.bool (bst near e pre).isSome]:=fun L hh=>(yQ hh).2 (z1A L);generalize bst near e pre=b at *;generalize lkN near x.2=lk at *
    cases lk with
    |none=>
     rw[if_neg (by simp)]at z6;cases b with
     |none=>
      simp at z1A z1H;repeat first|(refine r_ ?_;simp[zDA,z8,z1A,z1H,z0A,z0H])|refine q_ ?_
      refine Q9 rfl rfl ?_;simp;repeat first|(refine r_ ?_;simp)|refine q_ ?_
      refine Ql rfl ?_;repeat first|(refine r_ ?_;simp)|refine q_ ?_
      refine⟨Qb zz _,rfl,⟨?_,?_,?_,fun i hi=> ?_⟩,fun i cs hi hc=> ?_⟩
      ·rw[fl];exact Qi (Qb zz _) _
      ·rw[z6,Pt];exact z0A _
      ·rw[z6];exact z1A _
      ·rw[zE (by omega),zF (by omega)];exact zk i hi
      ·exact Qd (j:=G.length+2) (by omega) (Qb (zv i cs hi hc) _) _
     |some c=>
      simp at z1A z1H;repeat first|(refine r_ ?_;simp[zDA,z8,z1A,z1H,z0A,z0H])|refine q_ ?_
      refine Q9 rfl rfl ?_;simp;repeat first|(refine r_ ?_;simp)|refine q_ ?_
      refine Ql rfl ?_;repeat first|(refine r_ ?_;simp)|refine q_ ?_
      refine⟨Qb zz _,rfl,⟨?_,?_,?_,fun i hi=> ?_⟩,fun i cs hi hc=> ?_⟩
      ·rw[fl];exact Qi (Qb zz _) _
      ·rw[z6,Pt];exact z0A _
      ·rw[z6];exact z1A _
      ·rw[zE (by omega),zF (by omega)];exact zk i hi
      ·exact Qd (j:=G.length+2) (by omega) (Qb (zv i cs hi hc) _) _
    |some kd=>
     by_cases hkd:kd=e
     ·subst hkd;rw[if_pos rfl]at z6;cases b with
      |none=>
       simp at z1A z1H;simp only at z6;repeat first|(refine r_ ?_;simp[zDA,z8,z1A,z1H,z0A,z0H])|refine q_ ?_
       refine Q9 rfl rfl ?_;simp;repeat first|(refine r_ ?_;simp)|refine q_ ?_
       refine Ql rfl ?_;repeat first|(refine r_ ?_;simp[z0A,z0H,z1A,z1H,Qi z1])|refine q_ ?_
       refine⟨?_,rfl,⟨?_,?_,?_,fun i hi=> ?_⟩,fun i cs hi hc=> ?_⟩
       ·exact Qd (j:=G.length+1) (by omega) (Qd (j:=G.length) (by omega) (Qb zz _) _) _
       ·rw[fl];exact Qi (Qd (j:=G.length+1) (by omega) (Qd (j:=G.length) (by omega) (Qb zz _) _) _) _
       ·rw[z6];exact Qd (j:=G.length+1) (by omega) (Qi (z0A _) _) _
       ·rw[z6];exact Qi (Qd (j:=G.length) (by omega) (z1A _) _) _
       ·rw[zE (by omega),zE (by omega),zE (by omega),zF (by omega)];exact zk i hi
       ·exact Qd (j:=G.length+2) (by omega) (Qd (j:=G.length+1) (by omega) (Qd (j:=G.length) (by omega) (Qb (zv i cs hi hc) _) _) _) _
      |some c=>
       simp at z1A z1H;simp only at z6;repeat first|(refine r_ ?_;simp[zDA,z8,z1A,z1H,z0A,z0H])|refine q_ ?_
       refine Qe rfl rfl (by simp) (Kp x.1 (d1a (some c))) rfl ?_;rintro _ rfl;simp[z0A];cases hbf:Zg x.1 (d1a (some c))with
       |true=>
        rw[if_pos (show Zg x.1 c.1=true from hbf)]at z6;repeat first|(refine r_ ?_;simp)|refine q_ ?_
        refine Ql rfl ?_;repeat first|(refine r_ ?_;simp[z0A,z0H,z1A,z1H,Qi z1])|refine q_ ?_
        refine⟨?_,rfl,⟨?_,?_,?_,fun i hi=> ?_⟩,fun i cs hi hc=> ?_⟩
        ·exact Qd (j:=G.length+1) (by omega) (Qd (j:=G.length) (by omega) (Qb zz _) _) _
        ·rw[fl];exact Qi (Qd (j:=G.length+1) (by omega) (Qd (j:=G.length) (by omega) (Qb zz _) _) _) _
        ·rw[z6];exact Qd (j:=G.length+1) (by omega) (Qi (z0A _) _) _
        ·rw[z6];exact Qi (Qd (j:=G.length) (by omega) (z1A _) _) _
        ·rw[zE (by omega),zE (by omega),zE (by omega),zF (by omega)];exact zk i hi
        ·exact Qd (j:=G.length+2) (by omega) (Qd (j:=G.length+1) (by omega) (Qd (j:=G.length) (by omega) (Qb (zv i cs hi hc) _) _) _) _
       |false=>
        rw[if_neg (by rw[show Zg x.1 c.1=false from hbf];simp)]at z6;repeat first|(refine r_ ?_;simp)|refine q_ ?_
        refine Ql rfl ?_;repeat first|(refine r_ ?_;simp)|refine q_ ?_
        refine⟨Qb zz _,rfl,⟨?_,?_,?_,fun i hi=> ?_⟩,fun i cs hi hc=> ?_⟩
        ·rw[fl];exact Qi (Qb zz _) _
        ·rw[z6,Pt];exact z0A _
        ·rw[z6];exact z1A _
        ·rw[zE (by omega),zF (by omega)];exact zk i hi
        ·exact Qd (j:=G.length+2) (by omega) (Qb (zv i cs hi hc) _) _
     ·have zh:((kd:Int)==(e:Int))=false:=by simp;omega
      rw[if_neg (by simpa using hkd)]at z6;cases b with
      |none=>
       simp at z1A z1H;repeat first|(refine r_ ?_;simp[zDA,z8,zh,z1A,z1H,z0A,z0H])|refine q_ ?_
       refine Q9 rfl rfl ?_;simp;repeat first|(refine r_ ?_;simp)|refine q_ ?_
       refine Ql rfl ?_;repeat first|(refine r_ ?_;simp)|refine q_ ?_
       refine⟨Qb zz _,rfl,⟨?_,?_,?_,fun i hi=> ?_⟩,fun i cs hi hc=> ?_⟩
       ·rw[fl];exact Qi (Qb zz _) _
       ·rw[z6,Pt];exact z0A _
       ·rw[z6];exact z1A _
       ·rw[zE (by omega),zF (by omega)];exact zk i hi
       ·exact Qd (j:=G.length+2) (by omega) (Qb (zv i cs hi hc) _) _
      |some c=>
       simp at z1A z1H;repeat first|(refine r_ ?_;simp[zDA,z8,zh,z1A,z1H,z0A,z0H])|refine q_ ?_
       refine Q9 rfl rfl ?_;simp;repeat first|(refine r_ ?_;simp)|refine q_ ?_
       refine Ql rfl ?_;repeat first|(refine r_ ?_;simp)|refine q_ ?_
       refine⟨Qb zz _,rfl,⟨?_,?_,?_,fun i hi=> ?_⟩,fun i cs hi hc=> ?_⟩
       ·rw[fl];exact Qi (Qb zz _) _
       ·rw[z6,Pt];exact z0A _
       ·rw[z6];exact z1A _
       ·rw[zE (by omega),zF (by omega)];exact zk i hi
       ·exact Qd (j:=G.length+2) (by omega) (Qb (zv i cs hi hc) _) _
   ·rintro _ H' (⟨h2,h3,h5,h4⟩|⟨c,hc⟩)
    ·rw[z7]at h3;exact⟨⟨_,_,_,_,h2.trans fl⟩,h3,h4⟩
    ·exact hc.elim
  ·rintro _ H' ⟨⟨sl',zd,a',b',h2⟩,h3,h4⟩;refine⟨true,none,71,sl',zd,a',b',by simpa using h2,?_⟩;simp;have zi:inS a (f1w best).1∧inS a (f1w best).2:=by
    cases best with
    |none=>exact⟨⟨xN _,by show(0:Int)<_;omega⟩,⟨xN _,by show(0:Int)<_;omega⟩⟩
    |some x=>exact Zp ha ha (k12 z7)
   rw[z7]at za;rw[Pt]at h3;have z0:=Qd (j:=G.length+2) (by omega) h3 .dead;have zk:∀i,i<G.length→(H'.set (G.length+2) .dead)[i]? =G[i]? :=fun i hi=>by rw[zE (by omega)];exact h4 i hi
   have hlen:G.length<(H'.set (G.length+2) .dead).length:=by have:=Qh z0;omega
   generalize H'.set (G.length+2) .dead=Z at *;generalize d1a best=y at *;generalize f1w best=s' at *
   have zc:SL K Z q' 53 2 (w.map encSy):=⟨(zk _ (Qh hs.arr)).trans hs.arr,hs.ge,fun j hj=>(zk j (by have:=Qh hs.arr;have:=hs.ge;omega)).trans (hs.keep j hj)⟩
   have zD:=(zk _ (Qh gD)).trans gD;have zj:(w.map encSy).length=w.length:=by simp
   have zw:q'≠D:=fun e=>by have:=hs.arr;rw[e,gD]at this;simp at this
   have zx:q'≠G.length:=by have:=Qh hs.arr;omega
   have y8:D<G.length:=Qh gD;have zy:W=(w++[y])++Yo a near e s':=by rw[za];simp
   generalize ze:w.map encSy=acc at *
   repeat first|(refine r_ ?_;simp[z0])|refine q_ ?_
   refine Qf tOk rfl rfl T45 rfl T53 rfl (by decide) (by decide) rfl rfl rfl ?_;simp[Qb zc.arr,Qj zc.arr,zj];refine⟨by simp[Wi,Qb zc.arr,Qj zc.arr,zj]<;>omega,?_⟩;have y0:=zc.put [AObj.arr 53 2 [.agg [.i y.ty,.i y.num]]] (acc++[.agg [.i y.ty,.i y.num]]) rfl;have z0A:∀L,(Z.set q' .dead++L)[G.length]? =some (.vars [.i y.ty,.i y.num,.i s'.1,.i s'.2]):=fun L=>Qb (Qd zx z0 _) L;have zDA:∀L,(Z.set q' .dead++L)[D]? =some (.vars [.i ((e:Int)+1)]):=fun L=>Qb (Qd zw zD _) L;repeat first|(refine r_ ?_;simp)|refine q_ ?_
   refine Qm tOk mixed [] (.val 0 (.val 1 (.val 2 (.val 3 (.val 4 (.val 5 (.done))))))) rfl (by kernel_rfl) ?_;simp[z0A];repeat first|(refine r_ ?_;simp[zDA,hw,z8])|refine q_ ?_
   refine Qc (sl':=[(2,.i s'.1),(3,.i s'.2),(4,.vptr H.length 0),(5,.vptr (H.length+1) 0),(8,.nils),(9,.sl (Z.length+1) 2 0 (w++[y]).length),(10,.vptr (Z.length+2) 0)]) ?_ (by simp);have y1:=y0.add [.vars [.i e]];have y9:=zc.le;refine ih (e,w++[y],s',Z.length+1,Z.length+2,_) ⟨by simp;omega,zy,zi.1,zi.2,?_,?_,by simp only;omega⟩ (by simp only;omega)
   ·rw[show(w++[y]).map encSy=acc++[.agg [.i y.ty,.i y.num]] by rw[←ze];simp];simpa using y1
   ·simp only;rw[zH (by simp)];simp
 ·obtain rfl:e=0:=by simp at zp;omega
  rw[v00,xB]at za;subst za;have y2:=hs.ge;refine Qz (sl':=[(8,.nils),(9,.sl q' 2 0 W.length)]) ?_ (by simp);refine Wp q' hs.arr ?_;simp[AV.fz];rw[zR (by simp)];repeat first|(refine r_ ?_;simp)|refine q_ ?_
  refine fun i hi=> ?_;rw[zE (by omega)];exact gk i hi
end Go.Abs
namespace Go.Abs
open Go Go.Proofs Go.Maps Go.RowKit
theorem g03(H:List AObj)(q:Nat)(l:List Int)(g:Nat)(cs:List AV)(f:Int→Bool)(hq:H[q]? =some (.arr 3 1 (l.map AV.i)))(n:Nat)(hn:l.length=n)(hl:l.length≤1000000000)(hg:∀z∈l,FC Tryz.prog g ([]++[.i z]++cs) H (fun r H'=>r= .bool (f z)∧H'=H)):
  FC Tryz.prog 119 [.sl q 1 0 n,.fn (.func g) [] cs] H (fun r H'=>r= .i (Js f l)∧H'=H):=by
 subst hn;refine W6 tOk Tryz.func119 rfl Tryz.results119 rfl (by simp[Tryz.ntmps119]) ?_;rw[Tryz.ntmps119];simp only[Qg];repeat first|(refine r_ ?_;simp)|refine q_ ?_
 refine Qo (Qc (sl':=[(0,.sl q 1 0 l.length),(1,.fn (.func g) [] cs),(7,.i l.length),(8,.i 0)]) ?_ (by simp));refine Qn (F:=fun(j:Nat)=>⟨[(0,.sl q 1 0 l.length),(1,.fn (.func g) [] cs),(7,.i l.length),(8,.i j)],H⟩)
  (fun j=>j≤l.length∧∀i,∀hi:i<l.length,i<j→f l[i]=false) (fun j=>l.length - j) ?_ 0 ⟨by simp,by simp⟩
 rintro j ⟨hj,hI⟩ ih;repeat first|(refine r_ ?_;simp)|refine q_ ?_
 refine Qa rfl (fun z7=> ?_) (fun z8=> ?_)
 ·have z1:j<l.length:=by simpa using z7
  have hw:IntKind.i64.wrap ((j:Int)+1)=j+1:=wrap_i64 _ (by omega) (by omega);have za:(l.map AV.i)[j]? =some (.i l[j]):=by simp[z1]
  have zb:∀hh,(l.map AV.i)[j]'hh= .i l[j]:=fun hh=>by simp
  repeat first|(refine r_ ?_;simp[z1,hq,za,zb])|refine q_ ?_
  refine Q7 rfl rfl (hg _ (zL z1)) rfl ?_;rintro r H' ⟨rfl,rfl⟩;simp;repeat first|(refine r_ ?_;simp)|refine q_ ?_
  refine Qa rfl (fun h=> ?_) (fun h=> ?_)
  ·repeat first|(refine r_ ?_;simp)|refine q_ ?_
   rw[Hx z1 h hI]
  ·repeat first|(refine r_ ?_;simp[hw])|refine q_ ?_
   refine Qc (sl':=[(0,.sl q 1 0 l.length),(1,.fn (.func g) [] cs),(7,.i l.length),(8,.i (j+1:Nat))]) (ih (j+1) ⟨by omega,fun i hi zc=> ?_⟩ (by omega)) (by simp);by_cases e:i=j
   ·subst e;exact h
   ·exact hI i hi (by omega)
 ·have z6:j=l.length:=by simp at z8;omega
  subst z6;repeat first|(refine r_ ?_;simp)|refine q_ ?_
  rw[Sl hI]
attribute [local irreducible] Q1 Eh Rt Wo R0 lkN Es P7
theorem u13(a:Aut)(i k:Nat):eqS a i k=(lkN (Es a) ((i:Int),(k:Int))).isNone:=rfl
theorem Nh(a:Aut)(ha:OkA a)(H:List AObj)(N M I:Nat)(i k:Nat)(hN:H[N]? =some (.vars [.mref M]))(hM:H[M]? =some (mpN (Es a)))(hI:H[I]? =some (.vars [.i i]))(hb:NB a (Es a))(hi:i<a.fin.length)(hk:k<a.fin.length):
  FC Tryz.prog 144 [.i k,.vptr N 0,.vptr I 0] H (fun r H'=>r= .bool (eqS a i k)∧H'=H):=by
 refine W6 tOk Tryz.func144 rfl Tryz.results144 rfl (by simp[Tryz.ntmps144]) ?_;rw[Tryz.ntmps144];simp only[Qg];rw[u13];repeat first|(refine r_ ?_;simp[hN,hI])|refine q_ ?_
 refine Tt rfl rfl rfl rfl (s:=((i:Int),(k:Int))) rfl (near:=Es a) hM hb.nk (Sb ha ha ⟨Pq hi,Pq hk⟩) ?_;simp;repeat first|(refine r_ ?_;simp)|refine q_ ?_
theorem u1z(E:Nat→Bool)(l:List Nat):Js (fun z:Int=>E z.toNat) (Ye l)=match l.findIdx? E with|some t=>(t:Int)|none=> -1:=by
 have:(Ye l).findIdx? (fun z:Int=>E z.toNat)=l.findIdx? E:=by
  unfold Ye;rw[tw]
  congr 1
 show(match (Ye l).findIdx? (fun z:Int=>E z.toNat)with|some i=>(i:Int)|none=> -1)=_;rw[this]
attribute [local irreducible] eqS
theorem Gq(a:Aut)(ha:Dfa a):PC Tryz.prog 85 [Ei a] (fun r=>r=LI (Ye (clA a))):=by
 refine Qk tOk Tryz.func85 rfl Tryz.results85 rfl (by simp[Tryz.ntmps85]) ?_;rw[Tryz.ntmps85];simp only[Qg];simp only[Ei,Q6];have zq:=ha.ok.fin;repeat first|(refine r_ ?_;simp)|refine q_ ?_
 refine Q7 rfl rfl (Im a ha.ok _) rfl ?_;rintro _ Y ⟨M,rfl,zz,zb,zr,hk⟩;simp;have y0:Y[0]? =some (.vars (Q6 a)):=hk 0 (by simp);clear hk;have y1:=Qh zb;have y2:=Qh y0;have y0A:∀L,(Y++L)[0]? =some (.vars [.i a.types,.list (a.fin.map .bool),.list (a.mv.map encMv),.list (Rt a)]):=fun L=>Qb y0 L;have y0H:∀L hh,(Y++L)[0]'hh= .vars [.i a.types,.list (a.fin.map .bool),.list (a.mv.map encMv),.list (Rt a)]:=fun L hh=>(yQ hh).2 (y0A L);repeat first|(refine r_ ?_;simp[y0A,y0H])|refine q_ ?_
 refine Qz (sl':=[(1,.vptr 0 0),(2,.nils),(3,.vptr Y.length 0),(4,.nils),(5,.nils),(13,.i a.fin.length),(14,.i (0:Nat))]) ?_ (by simp);refine Q8 4 3 1 rfl ?_;simp;refine Q8 5 3 1 rfl ?_;simp;refine Wb fun Z hZ=> ?_;have zM:Z[M]? =some (mpN (Es a)):=by rw[hZ];exact Qb zb _
 have zN:Z[Y.length]? =some (.vars [.mref M]):=by rw[hZ,zH (by omega)];simp
 have zo:Z[Y.length+1]? =some (.arr 3 1 []):=by rw[hZ,zH (by omega)];simp
 have zf:Z[Y.length+2]? =some (.arr 3 1 []):=by rw[hZ,zH (by omega)];simp
 clear hZ y0A y0H y0;generalize Y.length=N at *;clear zb;clear Y
 have zc:P7 (eqS a) 0=([],[]):=by unfold P7;rfl
 have zd:clA a=(P7 (eqS a) a.fin.length).2:=rfl;rw[zd];refine Qo (Qc (sl':=[(1,.vptr 0 0),(2,.nils),(3,.vptr N 0),(4,.sl (N+1) 1 0 (P7 (eqS a) 0).2.length),(5,.sl (N+2) 1 0 (P7 (eqS a) 0).1.length),(13,.i a.fin.length),(14,.i (0:Nat))]) ?_ (by simp[zc]));refine Qn (P:=Tryz.prog) (F:=fun(u:Nat×Nat×Nat×List AObj)=>⟨[(1,.vptr 0 0),(2,.nils),(3,.vptr N 0),(4,.sl u.2.1 1 0 (P7 (eqS a) u.1).2.length),(5,.sl u.2.2.1 1 0 (P7 (eqS a) u.1).1.length),(13,.i a.fin.length),(14,.i u.1)],u.2.2.2⟩)
  (fun u=>u.1≤a.fin.length∧u.2.2.2[M]? =some (mpN (Es a))∧u.2.2.2[N]? =some (.vars [.mref M])∧u.2.2.2[u.2.1]? =some (.arr 3 1 ((Ye (P7 (eqS a) u.1).2).map AV.i))∧u.2.2.2[u.2.2.1]? =some (.arr 3 1 ((Ye (P7 (eqS a) u.1).1).map AV.i))∧u.2.1≠u.2.2.1) (fun u=>a.fin.length - u.1) ?_ (0,N+1,N+2,Z) ⟨xD _,zM,zN,by rw[zc];exact zo,by rw[zc];exact zf,by simp⟩
 clear zM zN zo zf;clear Z;rintro⟨i,qo,q9,G⟩ ⟨hi,gM,gN,go,gf,ze⟩ ih;simp only at hi gM gN go gf ze ih ⊢;have z7:=Ng (f1d ha) i hi;have zg:=z7.len;have zh:(P7 (eqS a) i).1.length≤i:=by have zt:(P7 (eqS a) i).1.Nodup:=z7.asc.imp fun h=>Nat.ne_of_lt h;have:=Un _ (yO i) zt fun x hx=>y_.2 (z7.lt x hx);simpa using this
 have z8:=z7.lt;repeat first|(refine r_ ?_;simp)|refine q_ ?_
 refine Qa rfl (fun zu=> ?_) (fun zv=> ?_)
 ·have zi:i<a.fin.length:=by simpa using zu
  have hw:IntKind.i64.wrap ((i:Int)+1)=i+1:=wrap_i64 _ (by omega) (by omega);have zm:=Ca (eqS a) i;have z1:=fun q' q2 H'=>ih (i+1,q',q2,H');simp only[zm]at z1;unfold Lw at z1;generalize P7 (eqS a) i=st at *
  obtain⟨fs,out⟩:=st;simp only at z1 zg zh z8 go gf;clear z7 zm;repeat first|(refine r_ ?_;simp)|refine q_ ?_
  have y3:=Qh gN;have y4:=Qh go;have y5:=Qh gf;refine Q7 rfl rfl (g03 (G++[AObj.vars [AV.i (i:Int)]]) q9 (Ye fs) 144 [.vptr N 0,.vptr G.length 0] (fun z=>eqS a i z.toNat) (Qb gf _) fs.length (by simp) (by simp;omega) (fun z hz=>by
   obtain⟨k,hk,rfl⟩:=zT.1 hz;have y6:=z8 k hk;exact Nh a ha.ok _ N M G.length i k (Qb gN _) (Qb gM _) (by simp) zr zi (by omega))) rfl ?_
  rintro _ _ ⟨rfl,rfl⟩;rw[u1z];simp;have kI:(G++[AObj.vars [AV.i (i:Int)]])[G.length]? =some (.vars [.i i]):=by simp
  have kM:(G++[AObj.vars [AV.i (i:Int)]])[M]? =some (mpN (Es a)):=Qb gM _;have kN:(G++[AObj.vars [AV.i (i:Int)]])[N]? =some (.vars [.mref M]):=Qb gN _;have ko:(G++[AObj.vars [AV.i (i:Int)]])[qo]? =some (.arr 3 1 ((Ye out).map AV.i)):=Qb go _;have kf:(G++[AObj.vars [AV.i (i:Int)]])[q9]? =some (.arr 3 1 ((Ye fs).map AV.i)):=Qb gf _;generalize G.length=I at *;generalize G++[AObj.vars [AV.i (i:Int)]]=Y at *
  have z6:((Ye out).map AV.i).length=out.length:=by simp
  have za:((Ye fs).map AV.i).length=fs.length:=by simp
  have zn:qo≠M:=fun e=>by rw[e,kM]at ko;simp[mpN]at ko
  have zp:qo≠N:=fun e=>by rw[e,kN]at ko;simp at ko
  have zw:q9≠M:=fun e=>by rw[e,kM]at kf;simp[mpN]at kf
  have zx:q9≠N:=fun e=>by rw[e,kN]at kf;simp at kf
  have y7:q9≠I:=fun e=>by rw[e,kI]at kf;simp at kf
  have mo:∀c:Nat,(Ye (out++[c])).map AV.i=(Ye out).map AV.i++[.i c]:=fun c=>by simp
  have mf:∀c:Nat,(Ye (fs++[c])).map AV.i=(Ye fs).map AV.i++[.i c]:=fun c=>by simp
  cases hix:fs.findIdx? (eqS a i)with
  |some t=>
   rw[hix]at z1;simp only[mo]at z1;generalize (Ye out).map AV.i=ao at *
   repeat first|(refine r_ ?_;simp)|refine q_ ?_
   refine Qa rfl (fun h=>by first|(simp at h;done)|(simp at h;omega)) (fun _=> ?_);repeat first|(refine r_ ?_;simp)|refine q_ ?_
   refine Qf tOk rfl rfl T40 rfl T3 rfl (by decide) (by decide) rfl rfl rfl ?_;simp[Qb ko,Qj ko,z6];refine⟨by simp[Wi,Qb ko,Qj ko,z6]<;>omega,?_⟩;repeat first|(refine r_ ?_;simp[hw])|refine q_ ?_
   refine Qc (sl':=[(1,.vptr 0 0),(2,.nils),(3,.vptr N 0),(4,.sl (Y.length+1) 1 0 (out++[t]).length),(5,.sl q9 1 0 fs.length),(13,.i a.fin.length),(14,.i (i+1:Nat))]) ?_ (by simp);refine z1 (Y.length+1) q9 _ ⟨by omega,Qb (Qd zn kM _) _,Qb (Qd zp kN _) _,?_,Qb (Qd ze kf _) _,by have:=Qh kf;omega⟩ (by omega);rw[zH (by simp)];simp
  |none=>
   rw[hix]at z1;simp only[mo,mf]at z1;generalize (Ye out).map AV.i=ao at *;generalize (Ye fs).map AV.i=af at *
   repeat first|(refine r_ ?_;simp)|refine q_ ?_
   refine Qa rfl (fun _=> ?_) (fun h=>by first|(simp at h;done)|(simp at h;omega));repeat first|(refine r_ ?_;simp[kI])|refine q_ ?_
   refine Qf tOk rfl rfl T40 rfl T3 rfl (by decide) (by decide) rfl rfl rfl ?_;simp[Qb kf,Qj kf,za];refine⟨by simp[Wi,Qb kf,Qj kf,za]<;>omega,?_⟩;refine Wb fun Z hZ=> ?_;have zM:Z[M]? =some (mpN (Es a)):=by rw[hZ];exact Qb (Qd zw kM _) _
   have zN:Z[N]? =some (.vars [.mref M]):=by rw[hZ];exact Qb (Qd zx kN _) _
   have zo:Z[qo]? =some (.arr 3 1 ao):=by rw[hZ];exact Qb (Qd (Ne.symm ze) ko _) _
   have zf:Z[Y.length+1]? =some (.arr 3 1 (af++[.i i])):=by rw[hZ,zH (by simp)];simp
   have zj:qo≠Y.length+1:=by have:=Qh ko;omega
   clear hZ;generalize Y.length+1=qf2 at *
   repeat first|(refine r_ ?_;simp)|refine q_ ?_
   refine Qf tOk rfl rfl T40 rfl T3 rfl (by decide) (by decide) rfl rfl rfl ?_;simp[Qb zo,Qj zo,z6];refine⟨by simp[Wi,Qb zo,Qj zo,z6]<;>omega,?_⟩;repeat first|(refine r_ ?_;simp[hw])|refine q_ ?_
   refine Qc (sl':=[(1,.vptr 0 0),(2,.nils),(3,.vptr N 0),(4,.sl (Z.length+1) 1 0 (out++[fs.length]).length),(5,.sl qf2 1 0 (fs++[i]).length),(13,.i a.fin.length),(14,.i (i+1:Nat))]) ?_ (by simp);refine z1 (Z.length+1) qf2 _ ⟨by omega,Qb (Qd zn zM _) _,Qb (Qd zp zN _) _,?_,Qb (Qd zj zf _) _,by have:=Qh zf;omega⟩ (by omega);rw[zH (by simp)];simp
 ·have zk:i=a.fin.length:=by simp at zv;omega
  subst zk;have zy:((Ye (P7 (eqS a) a.fin.length).2).map AV.i).length=(P7 (eqS a) a.fin.length).2.length:=by simp
  generalize zl:(Ye (P7 (eqS a) a.fin.length).2).map AV.i=acc at *
  repeat first|(refine r_ ?_;simp[go,zy])|refine q_ ?_
  rw[zR (by omega),←zl];simp
end Go.Abs
namespace Go.Abs
open Go Go.Proofs Go.Maps Go.RowKit
@[simp] theorem encMac_pure (a:Aut):(Ei a).pure=true:=by simp[Ei,Q6,Rt,T0,AV.pure]
attribute [local irreducible] Tf I8 Q1 Eh Rt Wo R0 lkN Es P7 clA Yo
theorem Vo(a:Aut):PC Tryz.prog 28 [encA a] (fun r=>r= .tup [LI (k1o a).1,.i (k1o a).2]):=by
 refine Qk tOk Tryz.func28 rfl Tryz.results28 rfl (by simp[Tryz.ntmps28]) ?_;rw[Tryz.ntmps28];simp only[Qg];simp only[encA];obtain⟨R,hR⟩:∃R,k1o a=R:=⟨_,rfl⟩
 rw[hR];unfold k1o at hR;repeat first|(refine r_ ?_;simp)|refine q_ ?_
 refine Qe rfl rfl (by simp) (F2 a) rfl ?_;rintro _ rfl;simp;repeat first|(refine r_ ?_;simp)|refine q_ ?_
 refine Qa rfl (fun h=> ?_) (fun h=> ?_)
 ·rw[if_pos (by simpa using h)]at hR;rw[←hR];repeat first|(refine r_ ?_;simp)|refine q_ ?_
 have h0:Tf a=0:=by simpa using h
 have ha:=(O6 a).1 h0;rw[if_neg (fun k=>k h0)]at hR;rw[←hR];repeat first|(refine r_ ?_;simp)|refine q_ ?_
 refine Qe rfl rfl (by simp) (Ti a ha.ok) rfl ?_;rintro _ rfl;simp;refine Qe rfl rfl (by simp) (Gq a ha) rfl ?_;rintro _ rfl;simp;repeat first|(refine r_ ?_;simp)|refine q_ ?_
theorem y1f(a:Aut)(p:Int):(decide (0≤p) && decide (p<a.fin.length))=decide (inS a p):=by rw[wt,decide_eq_true_eq,Bool.and_eq_true,decide_eq_true_eq,decide_eq_true_eq];exact Iff.rfl
theorem O3(a:Aut)(i:Int){b:Bool}(hb:decide (inS a i)=b):PC Tryz.prog 88 [encA a,.i i] (fun r=>r= .bool b):=by have:=d0p a i;rw[y1f,hb]at this;exact this
theorem Iu(a:Aut)(p q:Int):PC Tryz.prog 30 [encA a,.i p,.i q] (fun r=>r=f1m (v1u a p q)):=by
 refine Qk tOk Tryz.func30 rfl Tryz.results30 rfl (by simp[Tryz.ntmps30]) ?_;rw[Tryz.ntmps30];simp only[Qg];simp only[encA];obtain⟨R,hR⟩:∃R,v1u a p q=R:=⟨_,rfl⟩
 rw[hR];unfold v1u at hR;repeat first|(refine r_ ?_;simp)|refine q_ ?_
 refine Qe rfl rfl (by simp) (F2 a) rfl ?_;rintro _ rfl;simp;repeat first|(refine r_ ?_;simp)|refine q_ ?_
 refine Qa rfl (fun h=> ?_) (fun h=> ?_)
 ·rw[if_pos (by simpa using h)]at hR;rw[←hR];repeat first|(refine r_ ?_;simp)|refine q_ ?_
  rfl
 have h0:Tf a=0:=by simpa using h
 have ha:=(O6 a).1 h0;rw[if_neg (fun k=>k h0)]at hR;repeat first|(refine r_ ?_;simp)|refine q_ ?_
 by_cases hp:inS a p
 ·have e1:decide (inS a p)=true:=by simpa using hp
  refine Qe rfl rfl (by simp) (O3 a p e1) rfl ?_;rintro _ rfl;simp;by_cases hq:inS a q
  ·rw[if_pos ⟨hp,hq⟩]at hR;have e2:decide (inS a q)=true:=by simpa using hq
   refine Qe rfl rfl (by simp) (O3 a q e2) rfl ?_;rintro _ rfl;simp;refine Ql rfl ?_;repeat first|(refine r_ ?_;simp)|refine q_ ?_
   refine Qe rfl rfl (by simp) (Ti a ha.ok) rfl ?_;rintro _ rfl;simp[Ei,Q6];repeat first|(refine r_ ?_;simp)|refine q_ ?_
   have z1:=Nj ha hp hq;rw[z1]at hR;refine Q7 rfl rfl (Im a ha.ok _) rfl ?_;rintro _ Y ⟨M,rfl,za,z6,z7,hk⟩;have z8:=k09 a ha.ok Y M (Es a) z6 z7 p q hp hq;have y2:Y[1]? =some (.vars (Q6 a)):=hk 1 (by simp);simp only[Q6]at y2;clear hk z1;simp;repeat first|(refine r_ ?_;simp)|refine q_ ?_
   refine Tt rfl rfl rfl rfl (s:=(p,q)) rfl (near:=Es a) z6 z7.nk (Sb ha.ok ha.ok ⟨hp,hq⟩) ?_;simp;cases hlk:lkN (Es a) (p,q)with
   |none=>
    rw[hlk]at hR;rw[←hR];repeat first|(refine r_ ?_;simp)|refine q_ ?_
    refine Ql rfl ?_;repeat first|(refine r_ ?_;simp)|refine q_ ?_
    rfl
   |some d=>
    rw[hlk]at hR z8;rw[←hR];repeat first|(refine r_ ?_;simp)|refine q_ ?_
    refine Ql rfl ?_;repeat first|(refine r_ ?_;simp[y2])|refine q_ ?_
    refine Q7 rfl rfl z8 rfl ?_;rintro _ X ⟨rfl,_⟩;simp;repeat first|(refine r_ ?_;simp)|refine q_ ?_
    rfl
  ·rw[if_neg (fun k=>hq k.2)]at hR;rw[←hR];have e2:decide (inS a q)=false:=by simpa using hq
   refine Qe rfl rfl (by simp) (O3 a q e2) rfl ?_;rintro _ rfl;simp;refine Ql rfl ?_;repeat first|(refine r_ ?_;simp)|refine q_ ?_
   rfl
 ·rw[if_neg (fun k=>hp k.1)]at hR;rw[←hR];have e1:decide (inS a p)=false:=by simpa using hp
  refine Qe rfl rfl (by simp) (O3 a p e1) rfl ?_;rintro _ rfl;simp;refine Q9 rfl rfl ?_;simp;refine Ql rfl ?_;repeat first|(refine r_ ?_;simp)|refine q_ ?_
  rfl
end Go.Abs
namespace Go.Abs
open Go Go.Proofs Go.Maps Go.RowKit
theorem d0q{a b:List Int}{j:Nat}(h1:j<a.length)(h2:j<b.length)(h:a.take j=b.take j)(e:a[j]=b[j]):a.take (j+1)=b.take (j+1):=by rw[zU h1,zU h2,h,e]
theorem g06(a b:List Int):PC Tryz.prog 32 [LI a,LI b] (fun r=>r= .bool (decide (a=b))):=by
 refine Qk tOk Tryz.func32 rfl Tryz.results32 rfl (by simp[Tryz.ntmps32]) ?_;rw[Tryz.ntmps32];simp only[Qg];refine Ys 0 rfl (fun hlen=> ?_);rw[yB]at hlen;repeat first|(refine r_ ?_;simp)|refine q_ ?_
 refine Qa rfl (fun h=> ?_) (fun h1=> ?_)
 ·repeat first|(refine r_ ?_;simp)|refine q_ ?_
  rintro rfl;simp at h
 have hl:a.length=b.length:=by simp at h1;omega
 repeat first|(refine r_ ?_;simp)|refine q_ ?_
 refine Qt a.length (fun j=>a.take j=b.take j) (fun j=>[(0,LI a),(1,LI b),(12,.i a.length),(13,.i j)]) (fun _=>[]) rfl (by simp) (by simp) (by simp) (by simp) (by simp) ?_;intro j hj hI ih;repeat first|(refine r_ ?_;simp)|refine q_ ?_
 refine Qa rfl (fun z8=> ?_) (fun za=> ?_)
 ·have z1:j<a.length:=by simpa using z8
  have z6:j<b.length:=by omega
  repeat first|(refine r_ ?_;simp)|refine q_ ?_
  refine Qm tOk mixed [] (.val 0 (.val 1 (.val 2 (.val 3 (.val 4 (.val 5 (.val 6 (.val 7 (.val 8 (.done)))))))))) rfl (by kernel_rfl) ?_;simp[z1,z6];refine Qa rfl (fun h=> ?_) (fun h=> ?_)
  ·repeat first|(refine r_ ?_;simp)|refine q_ ?_
   rintro rfl;simp at h
  ·repeat first|(refine r_ ?_;simp)|refine q_ ?_
   have he:a[j]=b[j]:=by simpa using h
   refine Qr _ (ih z1 (d0q z1 z6 hI he)) rfl (by simp) ?_ (by simp) (by simp);simp;exact wrap_i64 _ (by omega) (by omega)
 ·have z7:j=a.length:=by simp at za;omega
  subst z7;repeat first|(refine r_ ?_;simp)|refine q_ ?_
  rw[zR (zP _),zR (by omega)]at hI;exact hI
attribute [local irreducible] x2e x1i u1v
end Go.Abs
namespace Go.Abs
open Go Go.Proofs Go.Maps Go.RowKit
theorem Ao(lo hi:Int):PC Tryz.prog 79 [.i lo,.i hi] (fun r=>r=encP (Jv lo hi)):=by
 refine Qk tOk Tryz.func79 rfl Tryz.results79 rfl (by simp[Tryz.ntmps79]) ?_;rw[Tryz.ntmps79];simp only[Qg];refine P5 (Om tOk rfl ?_);simp;refine P5 (Om tOk rfl ?_);simp;refine U4 1 (e:=187) (c:=2) (xs:=[encIv ⟨lo,hi⟩]) rfl 2 (o0:= .va 171 1 [.sl 1 2 0 1]) rfl (by decide) rfl ?_;simp[AObj.fz,AV.fz];refine Oh 2 rfl (by simp[AV.cells,AV.pure]) ?_;simp;refine Wg 2 (e:=171) (c:=1) (xs:=[encL [⟨lo,hi⟩]]) rfl 0 rfl ?_;simp;repeat first|(refine r_ ?_;simp)|refine q_ ?_
 rfl
def exM(b:Bool):Aut:=⟨1,[false,true,b],[⟨0,1,Jv (-1099511627776) 4⟩,⟨0,2,Jv 5 1099511627776⟩,⟨1,2,Jv (-1099511627776) 1099511627776⟩,⟨2,1,Jv (-1099511627776) 1099511627776⟩]⟩
def x06:Aut:=⟨1,[false,true],[⟨0,1,Jv (-1099511627776) 1099511627776⟩,⟨1,1,Jv (-1099511627776) 1099511627776⟩]⟩
theorem x2a(b:Bool):Tf (exM b)=0:=by cases b<;>decide+kernel
theorem x24:clA (exM true)=[0,1,1]:=by decide+kernel
theorem x1d:E2 (exM true)=x06:=by kernel_rfl
theorem y25:(I8 (exM true) (exM true) 0 1).1=some []:=by kernel_rfl
theorem y2d:(I8 (exM false) (exM false) 0 2).1=some [⟨0,5⟩]:=by kernel_rfl
theorem x22:Ms x06=false:=by decide+kernel
theorem j17:R3 (exM true) (Wy (exM true))=[]:=List.isEmpty_iff.1 (by decide+kernel)
theorem w2k:Sd (exM true)=(0,exM true):=by rw[Sd,j17];rfl
def xC:List Prd:=[[[⟨-1099511627776,4⟩]],[[⟨5,1099511627776⟩]]]
def xQ:List (List Int):=[[0],[1],[2]]
theorem j0k:(j0m (exM true).types (onA (exM true))).1=0∧(j0m (exM true).types (onA (exM true))).2=xC:=by decide+kernel
theorem y2t:Tm (exM true).types (onA (exM true))=(0,xC):=by rw[←j0t];exact uB j0k.1 j0k.2
theorem k0s:Lu (exM true) xC=some xQ:=by decide+kernel
theorem y2y:Wx (exM true)=0:=by decide+kernel
theorem d1f:O5 (exM true)=(0,xC,xQ):=by
 rw[O5,if_neg (fun k=>k y2y),y2t];rw[if_neg (by simp)];split
 ·rename_i h;have h2:Lu (exM true) xC=none:=h;rw[k0s]at h2;cases h2
 ·rename_i Q h;have h2:Lu (exM true) xC=some Q:=h;rw[k0s]at h2;rw[←Option.some.inj h2]
theorem k11:Um (exM true) xC xQ=exM true:=by kernel_rfl
theorem c1v:N1 (exM true)=false:=by decide+kernel
theorem c15:T6 (exM true)=(0,exM true):=by rw[T6,d1f,if_neg (by simp)];show Xr (Um (exM true) xC xQ)=_;rw[k11,q09,c1v];rfl
theorem c13:w09 (exM true)=(0,x06):=by rw[w09,c15,if_neg (by simp)];simp only[w2k];rw[if_neg (by simp),x1d,x22];rfl
theorem q2h:k1o (exM true)=([0,1,1],0):=by rw[k1o,if_neg (fun k=>k (x2a true)),x24];rfl
theorem x1g(b:Bool)(i:Int)(h:0≤i∧i<3):inS (exM b) i:=⟨h.1,by simpa[exM]using h.2⟩
theorem z27:v1u (exM true) 0 1=(some [],0):=by rw[v1u,if_neg (fun k=>k (x2a true)),if_pos ⟨x1g _ _ (by decide),x1g _ _ (by decide)⟩,y25]
theorem y2h:v1u (exM false) 0 2=(some [⟨0,5⟩],0):=by rw[v1u,if_neg (fun k=>k (x2a false)),if_pos ⟨x1g _ _ (by decide),x1g _ _ (by decide)⟩,y2d]
theorem U7(b:Bool):PC Tryz.prog 78 [.bool b] (fun r=>r=encA (exM b)):=by
 refine Qk tOk Tryz.func78 rfl Tryz.results78 rfl (by simp[Tryz.ntmps78]) ?_;rw[Tryz.ntmps78];simp only[Qg];have z1:yO 3=[0,1,2]:=rfl;have z6:yO 4=[0,1,2,3]:=rfl;repeat first|(refine r_ ?_;simp[z1,z6])|refine q_ ?_
 refine Qe rfl rfl (by simp) (Ao (-1099511627776) 4) rfl ?_;rintro _ rfl;simp[z1,z6];refine Qe rfl rfl (by simp) (Ao 5 1099511627776) rfl ?_;rintro _ rfl;simp[z1,z6];refine Qe rfl rfl (by simp) (Ao (-1099511627776) 1099511627776) rfl ?_;rintro _ rfl;simp[z1,z6];refine Qe rfl rfl (by simp) (Ao (-1099511627776) 1099511627776) rfl ?_;rintro _ rfl;simp[z1,z6];repeat first|(refine r_ ?_;simp[z1,z6])|refine q_ ?_
 exact⟨rfl,rfl,rfl⟩
end Go.Abs
namespace Go.Abs
open Go Go.Proofs Go.Maps Go.RowKit
theorem q2d(a b a' b':Int):eqA T 9 53 (.agg [.int .i64 a,.int .i64 b]) (.agg [.int .i64 a',.int .i64 b'])=some (a==a' && b==b'):=by simp[eqA,Yq,Gk,TI.agg]
theorem g1l{a b:List Sy}{j:Nat}(h1:j<a.length)(h2:j<b.length)(h:a.take j=b.take j)(e:a[j]=b[j]):a.take (j+1)=b.take (j+1):=by rw[zU h1,zU h2,h,e]
theorem u0a(a b:List Sy):PC Tryz.prog 33 [LSy a,LSy b] (fun r=>r= .bool (decide (a=b))):=by
 refine Qk tOk Tryz.func33 rfl Tryz.results33 rfl (by simp[Tryz.ntmps33]) ?_;rw[Tryz.ntmps33];simp only[Qg];refine Ys 0 rfl (fun hlen=> ?_);rw[yB]at hlen;repeat first|(refine r_ ?_;simp)|refine q_ ?_
 refine Qa rfl (fun h=> ?_) (fun h1=> ?_)
 ·repeat first|(refine r_ ?_;simp)|refine q_ ?_
  rintro rfl;simp at h
 have hl:a.length=b.length:=by simp at h1;omega
 repeat first|(refine r_ ?_;simp)|refine q_ ?_
 refine Qt a.length (fun j=>a.take j=b.take j) (fun j=>[(0,LSy a),(1,LSy b),(12,.i a.length),(13,.i j)]) (fun _=>[]) rfl (by simp) (by simp) (by simp) (by simp) (by simp) ?_;intro j hj hI ih;repeat first|(refine r_ ?_;simp)|refine q_ ?_
 refine Qa rfl (fun z8=> ?_) (fun za=> ?_)
 ·have z1:j<a.length:=by simpa using z8
  have z6:j<b.length:=by omega
  repeat first|(refine r_ ?_;simp)|refine q_ ?_
  refine Qm tOk mixed [] (.val 0 (.val 1 (.val 2 (.val 3 (.val 4 (.val 5 (.val 6 (.val 7 (.val 8 (.done)))))))))) rfl (by kernel_rfl) ?_;simp[z1,z6,q2d];refine Qa rfl (fun h=> ?_) (fun h=> ?_)
  ·repeat first|(refine r_ ?_;simp)|refine q_ ?_
   rintro rfl;simp at h
  ·repeat first|(refine r_ ?_;simp)|refine q_ ?_
   have he:a[j]=b[j]:=by
    have h2:a[j].ty=b[j].ty∧a[j].num=b[j].num:=by simpa using h
    cases ha:a[j];cases hb:b[j];rw[ha,hb]at h2;simp only at h2;rw[h2.1,h2.2]
   refine Qr _ (ih z1 (g1l z1 z6 hI he)) rfl (by simp) ?_ (by simp) (by simp);simp;exact wrap_i64 _ (by omega) (by omega)
 ·have z7:j=a.length:=by simp at za;omega
  subst z7;repeat first|(refine r_ ?_;simp)|refine q_ ?_
  rw[zR (zP _),zR (by omega)]at hI;exact hI
end Go.Abs
namespace Go.Abs
open Go Go.Proofs Go.RowKit Go.Shelf Go.Lib Go.Sort
abbrev BIv:={ x:Iv // Ia x }
instance:Inhabited BIv:=⟨⟨⟨0,0⟩,by unfold Ia inB;decide⟩⟩
def y1z(x:BIv):List Value:=Kh x.1
def f1x(x y:BIv):Int:=x.1.lo - y.1.lo
theorem N7(x y:BIv)(W:World):Calls Tryz.prog 195 #[.agg #[.int .i64 x.1.lo,.int .i64 x.1.hi],.agg #[.int .i64 y.1.lo,.int .i64 y.1.hi]] W fun e w'=>e= .returned (.int .i64 (f1x x y))∧∃q os',w'=grow (W.drewN q) os':=by
 have h1:=(W8 _).1 x.2.1;have h2:=(W8 _).1 y.2.1;have hw:IntKind.i64.wrap (x.1.lo - y.1.lo)=f1x x y:=wrap_i64 _ (by omega) (by omega)
 go_enter Tryz.func195,Tryz.ntmps195
 go_wp2
 go_ret
 exact⟨rfl,0,_,by rw[alloc_eq_grow,alloc_eq_grow,grow_grow];rfl⟩
theorem x1y(x y:BIv):ltOf f1x x y=decide (x.1.lo<y.1.lo):=by unfold ltOf f1x;rw[wt];simp;omega
theorem c1a:SWO (ltOf f1x) where
 irrefl x:=by rw[x1y];simp
 trans x y z h1 h2:=by rw[x1y]at *;simp at *;omega
 ntrans x y z h1 h2:=by rw[x1y]at *;simp at *;omega
theorem x2g(l:List BIv):RowOf 2 ((l.map (·.1)).map encIv) (flatK y1z 2 l.toArray) where
 size:=by simp
 width x hx:=by obtain⟨y,_,rfl⟩:=zT.1 hx;rfl
 cell i x hx j y hy:=by
  rw[zY,zY]at hx;obtain⟨z0,z1,rfl⟩:=zV.1 hx;obtain⟨z,hz,rfl⟩:=zV.1 z1;obtain⟨hi,rfl⟩:=zB.1 hz;have hj:j<2:=(zB.1 hy).1;rw[get_flatK _ _ _ _ (by simp;omega)];rw[show(i * 2+j) / 2=i by omega,show(i * 2+j) % 2=j by omega];rw[getElem!_pos l.toArray i (by simpa using hi)]
  match j,hj with
  |0,_=>simp[encIv,AV.cells]at hy;subst hy;rfl
  |1,_=>simp[encIv,AV.cells]at hy;subst hy;rfl
theorem u09(H:List AObj)(p:Nat)(l:List BIv)(hp:H[p]? =some (.arr 187 2 ((l.map (·.1)).map encIv)))(hl:l.length≤1000000):
  FC Tryz.prog 179 [.sl p 2 0 l.length,.fn (.func 195) [] []] H
   (fun r H'=>r= .tup []∧∃l':List BIv,l'.Perm l∧X0 (l'.map (·.1))∧H'=H.set p (.arr 187 2 ((l'.map (·.1)).map encIv))):=by
 refine(u0q (xs:=(l.map (·.1)).map encIv) (Yi Tryz.func179 rfl rfl) (by simp) hp (x2g l) [.func (.func 195) #[] #[]] (fun w I m vs a b=>Mf _ w I m _ vs a b) (fun z1=>∃l':List BIv,l'.Perm l∧X0 (l'.map (·.1))∧z1=(l'.map (·.1)).map encIv) ?_ ?_).mono ?_
 ·intro b cap w hH hb hc;have eg:∀args w,(callFunc 195 args).run Tryz.prog w= .ok (.enter 195 args) w:=enters_of Tryz.func195 (by kernel_rfl) rfl;have:=AnyQ.slices_SortFunc Tryz.sortIv 2 Tryz.isAgg187 Tryz.sizeOf187 y1z (fun _=>rfl) (fun x v hv=>by simp[y1z,Kh]at hv;rcases hv with rfl|rfl<;>rfl) f1x c1a 195 #[] b 0 cap l.toArray w eg (fun _ _ _ _ x y=>N7 x y _) hH hb (by simp;omega);change Calls Tryz.prog 179 _ _ _ at this;rw[show(l.toArray).size=l.length by simp]at this;refine Calls.mono (this) ?_;rintro e w' ⟨rfl,d',n,os,h1,h2,rfl⟩;obtain⟨s1,_,s3⟩:=h1;have hs:d'.toList.length=l.length:=by simpa using s1
  refine⟨rfl,(d'.toList.map (·.1)).map encIv,flatK y1z 2 d',n,os,⟨d'.toList,?_,?_,rfl⟩,by simp[hs],by simpa using x2g d'.toList,rfl⟩
  ·rw[show d'.extract 0 l.length=d' by simp[←hs],show l.toArray.extract 0 l.length=l.toArray by simp]at s3;simpa using s3
  ·refine wP.2 (yU.2 fun i j hi hj z6=> ?_);have:=h2 i j (xD _) z6 (by omega);rw[x1y,getElem!_pos d' i (by simpa using hi),getElem!_pos d' j (by simpa using hj)]at this;simpa using this
 ·rintro h;have z7:l=[]:=by
   cases l with
   |nil=>rfl
   |cons x r=>simp at h
  subst z7;exact⟨⟨[],.refl _,.nil,rfl⟩,fun w=>AnyF.slices_SortFunc_none Tryz.sortIv none 0 _ w⟩
 ·rintro r H' ⟨rfl,z1,⟨l',h1,h2,rfl⟩,rfl⟩;exact⟨rfl,l',h1,h2,rfl⟩
theorem z1h(H:List AObj)(p:Nat)(l:List Iv)(hp:H[p]? =some (.arr 187 2 (l.map encIv)))(hl:l.length≤1000000)(z1:∀y∈l,Ia y):
  FC Tryz.prog 179 [.sl p 2 0 l.length,.fn (.func 195) [] []] H
   (fun r H'=>r= .tup []∧∃l':List Iv,l'.Perm l∧X0 l'∧H'=H.set p (.arr 187 2 (l'.map encIv))):=by
 have hb:(l.attach.map fun x=>(⟨x.1,z1 x.1 x.2⟩:BIv)).map (·.1)=l:=by simp
 have:=u09 H p (l.attach.map fun x=>(⟨x.1,z1 x.1 x.2⟩:BIv)) (by rw[hb];exact hp) (by simpa using hl);rw[show(l.attach.map fun x=>(⟨x.1,z1 x.1 x.2⟩:BIv)).length=l.length by simp]at this;refine this.mono ?_;rintro r H' ⟨rfl,l',h1,h2,rfl⟩;refine⟨rfl,l'.map (·.1),?_,h2,rfl⟩;have:=h1.map (·.1)
 rwa [hb]at this
end Go.Abs
namespace Go.Abs
open Go Go.Proofs Go.Maps Go.RowKit
attribute [local irreducible] W4 Qx Ej Qw U8 Fu
theorem d08(T:Nat)(l:List Prd)(hT:T≤16)(hl:∀p∈l,PWf T p)(hn:∀i,i<T→(Qw l i).length≤1000000)(yf:l.length≤1000000):PC Tryz.prog 161 [.i T,LP l] (fun r=>r=encP (U8 T l)):=by
 refine Qk tOk Tryz.func161 rfl Tryz.results161 rfl (by simp[Tryz.ntmps161]) ?_;rw[Tryz.ntmps161];simp only[Qg];simp only[encP];repeat first|(refine r_ ?_;simp)|refine q_ ?_
 refine E9 tOk rfl rfl rfl T74 rfl Ig rfl rfl rfl (n:=T) (by simp;omega) (by unfold maxLen;omega) .nils rfl ?_;simp;repeat first|(refine r_ ?_;simp)|refine q_ ?_
 rw[Cq (fun k=>Ej (Qw l k))];refine Qo (Qc (sl':=[(0,.i T),(1,LP l),(4,.vptr 0 0),(5,.vptr 2 0),(17,.i T),(18,.i (0:Nat))]) ?_ (by simp));refine Qn (P:=Tryz.prog) (F:=fun(u:Nat×List AObj)=>⟨[(0,.i T),(1,LP l),(4,.vptr 0 0),(5,.vptr 2 0),(17,.i T),(18,.i u.1)],u.2⟩)
  (fun u=>u.1≤T∧3≤u.2.length∧u.2[0]? =some (.vars [.nils])∧u.2[1]? =some (.arr 171 1 (Fu (fun k=>Ej (Qw l k)) T u.1))∧u.2[2]? =some (.vars [.sl 1 1 0 T])) (fun u=>T - u.1) ?_ (0,_) ⟨by simp,by simp,rfl,rfl,rfl⟩
 rintro⟨i,H2⟩ ⟨hi,hH,g0,g1,g2⟩ ih;simp only at hi hH g0 g1 g2 ih ⊢;repeat first|(refine r_ ?_;simp)|refine q_ ?_
 refine Qa rfl (fun y4=> ?_) (fun y5=> ?_)
 ·have z7:i<T:=by simpa using y4
  have hw:IntKind.i64.wrap ((i:Int)+1)=i+1:=wrap_i64 _ (by omega) (by omega);have zd:=z0m (fun k=>Ej (Qw l k)) z7;have zr:=w02 (fun k=>Ej (Qw l k)) z7;have y6:=q0p (fun k=>Ej (Qw l k)) T i;have zi:=hn i z7;have zt:=fun H'=>ih (i+1,H');simp only[←zd]at zt;clear zd;generalize Fu (fun k=>Ej (Qw l k)) T i=row at *
  repeat first|(refine r_ ?_;simp)|refine q_ ?_
  refine Qz (sl':=[(0,.i T),(1,LP l),(4,.vptr 0 0),(5,.vptr 2 0),(6,.i i),(7,.nils),(17,.i T),(18,.i i),(21,LP l),(22,.i l.length),(23,.i (0:Nat))]) ?_ (by simp);refine Q8 7 187 2 rfl ?_;simp;have zh:=SL.start H2 187 2;refine Qo (Qc (sl':=[(0,.i T),(1,LP l),(4,.vptr 0 0),(5,.vptr 2 0),(6,.i i),(7,.sl H2.length 2 0 (Qw (l.take 0) i).length),(17,.i T),(18,.i i),(21,LP l),(22,.i l.length),(23,.i (0:Nat))]) ?_ (by simp[Ue]));refine Qn (P:=Tryz.prog) (F:=fun(u:Nat×Nat×List AObj)=>⟨[(0,.i T),(1,LP l),(4,.vptr 0 0),(5,.vptr 2 0),(6,.i i),(7,.sl u.2.1 2 0 (Qw (l.take u.1) i).length),(17,.i T),(18,.i i),(21,LP l),(22,.i l.length),(23,.i u.1)],u.2.2⟩)
   (fun u=>u.1≤l.length∧SL H2 u.2.2 u.2.1 187 2 ((Qw (l.take u.1) i).map encIv)) (fun u=>l.length - u.1) ?_ (0,H2.length,_) ⟨xD _,by rw[wJ,Ue];exact zh⟩
  rintro⟨j,q,G⟩ ⟨hj,g⟩ ih2;simp only at hj g ih2 ⊢;repeat first|(refine r_ ?_;simp)|refine q_ ?_
  refine Qa rfl (fun za=> ?_) (fun zb=> ?_)
  ·have z1:j<l.length:=by simpa using za
   have ze:IntKind.i64.wrap ((j:Int)+1)=j+1:=wrap_i64 _ (by omega) (by omega);have hp:=hl _ (zL z1);have zj:i<l[j].length:=by rw[hp.1];exact z7
   have zc:=P0 z1 zj;have zk:(Qw (l.take (j+1)) i).length≤1000000:=by refine yH ?_ zi;unfold Qw;rw[←xU (j+1) l,wp,zZ,xU];omega
   rw[zc,zZ]at zk;have z6:=fun q' G'=>ih2 (j+1,q',G');simp only[zc]at z6;clear zc;have zu:(ws encP l)[j]? =some (encP l[j]):=by simp[z1]
   have zv:∀hh,(ws encP l)[j]'hh=encP l[j]:=fun hh=>by simp
   generalize l[j]=pj at *
   have y7:(pj.map encL)[i]? =some (encL pj[i]):=by simp[zj]
   have y8:∀hh,(pj.map encL)[i]'hh=encL pj[i]:=fun hh=>by simp
   generalize pj[i]=s at *;generalize Qw (l.take j) i=acc at *
   have zw:(acc.map encIv).length=acc.length:=by simp
   simp only[encP]at zu zv;repeat first|(refine r_ ?_;simp[zu,zv,z1,zj,y7,y8])|refine q_ ?_
   have g2:=g.add [.vars [.list (pj.map encL)]];generalize G++[AObj.vars [.list (pj.map encL)]]=Y at *;generalize zl:acc.map encIv=ac at *;refine Qf tOk rfl rfl Ig rfl Sz rfl (by decide) (by decide) rfl rfl rfl ?_
   simp[Qb g2.arr,Qj g2.arr,g2.arr,zw];refine⟨⟨fun y hy=> ?_,by simp[zw];omega⟩,?_⟩
   ·obtain⟨x,_,rfl⟩:=zT.1 hy;exact⟨rfl,rfl⟩
   repeat first|(refine r_ ?_;simp[ze])|refine q_ ?_
   refine Qc (sl':=[(0,.i T),(1,LP l),(4,.vptr 0 0),(5,.vptr 2 0),(6,.i i),(7,.sl Y.length 2 0 (acc++s).length),(17,.i T),(18,.i i),(21,LP l),(22,.i l.length),(23,.i (j+1:Nat))]) ?_ (by simp);refine z6 Y.length _ ⟨by omega,?_⟩ (by omega);rw[yP,zl];exact g2.put [] (ac++s.map encIv) (by simp)
  ·have z8:j=l.length:=by simp at zb;omega
   subst z8;rw[yW]at g ⊢;have zm:∀y∈Qw l i,Ia y∧y.lo≤y.hi:=fun y hy=>Bt hl hy;generalize yg:Qw l i=L at *
   have zn:=g.ge;repeat first|(refine r_ ?_;simp)|refine q_ ?_
   refine Q7 rfl rfl (z1h G q L g.arr zi (fun y hy=>(zm y hy).1)) rfl ?_;rintro r H' ⟨rfl,l',h1,h2,rfl⟩;simp;have hl':l'.length≤1000000:=by rw[h1.length_eq];exact zi
   have y9:=h1.length_eq;have zo:∀y∈l',Ia y:=fun y hy=>(zm y (h1.mem_iff.1 hy)).1;have zf:=Dy L l' (fun y hy=>(zm y hy).2) h1 h2;rw[←y9];have gq:=Qi g.arr (.arr 187 2 (l'.map encIv));have gk:∀j,j<H2.length→(G.set q (.arr 187 2 (l'.map encIv)))[j]? =H2[j]? :=fun j hj=>by rw[zE (by omega)];exact g.keep j hj
   generalize G.set q (.arr 187 2 (l'.map encIv))=G1 at *
   repeat first|(refine r_ ?_;simp)|refine q_ ?_
   refine Qz (sl':=[(0,.i T),(1,LP l),(4,.vptr 0 0),(5,.vptr 2 0),(6,.i i),(10,.nils),(17,.i T),(18,.i i),(37,.sl q 2 0 l'.length),(38,.i l'.length),(39,.i (0:Nat))]) ?_ (by simp);refine Wp q gq ?_;simp[AV.fz];rw[zR (by simp)];have ya:∀j,j<H2.length→(G1.set q .dead)[j]? =H2[j]? :=fun j hj=>by rw[zE (by omega)];exact gk j hj
   have yh:H2.length≤(G1.set q .dead).length:=by have:=Qh gq;simp;omega
   generalize G1.set q .dead=K at *;refine Q8 10 187 2 rfl ?_
   simp;have zh:=SL.start K 187 2;refine Qo (Qc (sl':=[(0,.i T),(1,LP l),(4,.vptr 0 0),(5,.vptr 2 0),(6,.i i),(10,.sl K.length 2 0 (Qx [] (l'.take 0)).length),(17,.i T),(18,.i i),(37,LIv l'),(38,.i l'.length),(39,.i (0:Nat))]) ?_ (by simp[Qx]));refine Qn (P:=Tryz.prog) (F:=fun(u:Nat×Nat×List AObj)=>⟨[(0,.i T),(1,LP l),(4,.vptr 0 0),(5,.vptr 2 0),(6,.i i),(10,.sl u.2.1 2 0 (Qx [] (l'.take u.1)).length),(17,.i T),(18,.i i),(37,LIv l'),(38,.i l'.length),(39,.i u.1)],u.2.2⟩)
    (fun u=>u.1≤l'.length∧SL K u.2.2 u.2.1 187 2 ((Qx [] (l'.take u.1)).map encIv)) (fun u=>l'.length - u.1) ?_ (0,K.length,_) ⟨xD _,by rw[wJ,Qx,List.foldl_nil];exact zh⟩
   clear g gq gk ih2 zh zn;clear G G1 q;rintro⟨j,p,G⟩ ⟨hj,g⟩ ih2;simp only at hj g ih2 ⊢;repeat first|(refine r_ ?_;simp)|refine q_ ?_
   refine Qa rfl (fun za=> ?_) (fun zb=> ?_)
   ·have z1:j<l'.length:=by simpa using za
    have ze:IntKind.i64.wrap ((j:Int)+1)=j+1:=wrap_i64 _ (by omega) (by omega);have zd:Qx [] (l'.take (j+1))=W4 (Qx [] (l'.take j)) l'[j]:=by rw[zU z1,Uv]
    have zx:(Qx [] (l'.take j)).length≤j:=yH (Rq _ _) (by simp;omega);have zp:∀y∈Qx [] (l'.take j),Ia y:=I7 _ _ (by simp) (fun y hy=>zo y (xS hy));have z6:=fun p' G'=>ih2 (j+1,p',G');simp only[zd]at z6;clear zd;generalize Qx [] (l'.take j)=acc at *;generalize hx:l'[j]=x at *
    repeat first|(refine r_ ?_;simp[z1,hx])|refine q_ ?_
    rcases List.eq_nil_or_concat acc with rfl|⟨ini,y,rfl⟩
    ·refine Qm tOk mixed [] (.val 0 (.val 1 (.val 2 (.val 3 (.val 4 (.val 5 (.val 6 (.val 7 (.val 8 (.val 9 (.val 10 (.val 11 (.val 12 (.val 13 (.done))))))))))))))) rfl (by kernel_rfl) ?_;simp;refine Ql rfl ?_;simp;repeat first|(refine r_ ?_;simp)|refine q_ ?_
     refine Qf tOk rfl rfl Ig rfl Sz rfl (by decide) (by decide) rfl rfl rfl ?_;simp[Qb g.arr,Qj g.arr];refine⟨by simp[Wi,Qb g.arr,Qj g.arr]<;>omega,?_⟩;repeat first|(refine r_ ?_;simp[ze])|refine q_ ?_
     refine Qc (sl':=[(0,.i T),(1,LP l),(4,.vptr 0 0),(5,.vptr 2 0),(6,.i i),(10,.sl (G.length+2) 2 0 1),(17,.i T),(18,.i i),(37,LIv l'),(38,.i l'.length),(39,.i (j+1:Nat))]) ?_ (by simp);have:=z6 (G.length+2) _ ⟨by omega,by rw[W4];exact g.put [AObj.vars [AV.i x.lo,AV.i x.hi],AObj.arr 187 2 [encIv x]] _ rfl⟩ (by omega);rw[W4]at this;simpa using this
    ·have yi:=(W8 _).1 (zp y (by simp)).2;have zy:IntKind.i64.wrap (y.hi+1)=y.hi+1:=wrap_i64 _ (by omega) (by omega);have gA:=g.arr;rw[List.concat_eq_append]at g gA z6 zx ⊢;have hlen:(ini++[y]).length=ini.length+1:=by simp
     rw[hlen]at zx ⊢;have zz:IntKind.i64.wrap (ini.length:Int)=ini.length:=wrap_i64 _ (by omega) (by omega);have hg:((ini++[y]).map encIv)[ini.length]? =some (encIv y):=by simp
     have zg:(ini.length:Int)<ini.length+1:=by omega
     refine Qm tOk mixed [] (.val 0 (.val 1 (.val 2 (.val 3 (.val 4 (.val 5 (.val 6 (.val 7 (.val 8 (.val 9 (.val 10 (.val 11 (.val 12 (.val 13 (.done))))))))))))))) rfl (by kernel_rfl) ?_;simp[Qb gA,zz,hg,zy,zg];refine Qa rfl (fun h1=> ?_) (fun h1=> ?_)
     ·repeat first|(refine r_ ?_;simp)|refine q_ ?_
      refine Qm tOk mixed [14] (.val 0 (.val 1 (.val 2 (.val 3 (.val 4 (.val 5 (.val 6 (.val 7 (.val 8 (.val 9 (.val 10 (.val 11 (.val 12 (.val 13 (.one 14 (.done)))))))))))))))) rfl (by kernel_rfl) ?_;simp[Qb gA,zz,hg,zy,zg,Qj gA];repeat first|(refine r_ ?_;simp[ze])|refine q_ ?_
      have hR:W4 (ini++[y]) x=ini++[⟨y.lo,if y.hi<x.hi then x.hi else y.hi⟩]:=by rw[W7,if_pos (by simpa using h1)]
      rw[hR]at z6;refine Qc (sl':=[(0,.i T),(1,LP l),(4,.vptr 0 0),(5,.vptr 2 0),(6,.i i),(10,.sl p 2 0 (ini.length+1)),(17,.i T),(18,.i i),(37,LIv l'),(38,.i l'.length),(39,.i (j+1:Nat))]) ?_ (by simp);have:=z6 p _ ⟨by omega,g.upd [AObj.vars [AV.i x.lo,AV.i x.hi]] _⟩ (by omega);simpa using this
     ·repeat first|(refine r_ ?_;simp)|refine q_ ?_
      refine Qf tOk rfl rfl Ig rfl Sz rfl (by decide) (by decide) rfl rfl rfl ?_;simp[Qb gA,Qj gA];refine⟨by simp[Wi,Qb gA,Qj gA]<;>omega,?_⟩;repeat first|(refine r_ ?_;simp[ze])|refine q_ ?_
      have hR:W4 (ini++[y]) x=ini++[y]++[x]:=by rw[W7,if_neg (by simpa using h1)]
      rw[hR]at z6;refine Qc (sl':=[(0,.i T),(1,LP l),(4,.vptr 0 0),(5,.vptr 2 0),(6,.i i),(10,.sl (G.length+2) 2 0 (ini.length+2)),(17,.i T),(18,.i i),(37,LIv l'),(38,.i l'.length),(39,.i (j+1:Nat))]) ?_ (by simp);have:=z6 (G.length+2) _ ⟨by omega,g.put [AObj.vars [AV.i x.lo,AV.i x.hi],AObj.arr 187 2 [encIv x]] _ rfl⟩ (by omega);simpa using this
   ·have z8:j=l'.length:=by simp at zb;omega
    subst z8;rw[yW,zf]at g ⊢;refine Wp p g.arr ?_;simp[AV.fz];rw[zR (by simp)];have yj:=Qh g.arr;have yb:=g.ge;have yk:∀j,j<H2.length→(G.set p .dead)[j]? =H2[j]? :=fun j hj=>by rw[zE (by omega),g.keep j (by omega)];exact ya j hj
    have yl:3≤(G.set p .dead).length:=by simp;omega
    generalize G.set p .dead=Y at *
    have y0:=(yk 0 (by omega)).trans g0;have y1:=(yk 1 (by omega)).trans g1;have y2:=(yk 2 (by omega)).trans g2;have y1H:∀hh,Y[1]'hh= .arr 171 1 row:=fun hh=>(yQ hh).2 y1;have yc:∀hh,row[i]'hh= .nils:=fun hh=>(yQ hh).2 zr;repeat first|(refine r_ ?_;simp[y1,y2,y1H,z7,y6,zr,yc,hw])|refine q_ ?_
    refine Qc (sl':=[(0,.i T),(1,LP l),(4,.vptr 0 0),(5,.vptr 2 0),(17,.i T),(18,.i (i+1:Nat))]) ?_ (by simp);exact zt _ ⟨by omega,by simp;omega,Qd (by decide) y0 _,Qi y1 _,Qd (by decide) y2 _⟩ (by omega)
 ·have zq:i=T:=by simp at y5;omega
  subst zq;rw[L5]at *
  have yd:(yO i).map (fun k=>Ej (Qw l k))=U8 i l:=by unfold U8;rfl
  rw[yd]at *;refine Wg 1 g1 2 g2 ?_
  have y3:=q0q i l;have e0:∀Y,((H2.set 1 AObj.dead).set 2 Y)[0]? =some (AObj.vars [AV.nils]):=fun Y=>Qd (by decide) (Qd (by decide) g0 _) _;have ye:∀Y hh,((H2.set 1 AObj.dead).set 2 Y)[0]'hh=AObj.vars [AV.nils]:=fun Y hh=>by have:=e0 Y;rw[zK hh]at this;exact Option.some.inj this
  have e2:∀Y,((H2.set 1 AObj.dead).set 2 Y)[2]? =some Y:=fun Y=>Qi (Qd (by decide) g2 _) _;have e3:∀Y Z,(((H2.set 1 AObj.dead).set 2 Y).set 0 Z)[0]? =some Z:=fun Y Z=>Qi (e0 Y) _;simp[y3];rw[zR (by simp[y3])];repeat first|(refine r_ ?_;simp[e0,ye,e2,e3])|refine q_ ?_
  unfold U8;rw[vF]
end Go.Abs
namespace Go.Abs
open Go Go.Proofs Go.Maps Go.RowKit
def L0(a:Aut)(cl:List Nat)(s:Int)(j t:Nat):List Prd:=(((Q1 a s).take j).filter fun m=>decide (clD cl m=t)).map (·.on)
def Ji(ks:List Nat)(t:Nat):List Nat:=if t∈ks then ks else ks++[t]
def K5(a:Aut)(cl:List Nat)(s:Int)(j:Nat):List Nat:=((Q1 a s).take j).foldl (fun ks m=>Ji ks (clD cl m)) []
theorem x1v(a:Aut)(cl:List Nat)(s:Int)(t:Nat):L0 a cl s (Q1 a s).length t=Pa a cl s t:=by simp[L0,Pa]
theorem f0g(a:Aut)(cl:List Nat)(s:Int){j:Nat}(h:j<(Q1 a s).length):L0 a cl s (j+1)=fun t=>if t=clD cl (Q1 a s)[j]then L0 a cl s j (clD cl (Q1 a s)[j])++[(Q1 a s)[j].on]else L0 a cl s j t:=by
 funext t;unfold L0;rw[zU h,vQ,yP,List.filter_cons,List.filter_nil];by_cases e:t=clD cl (Q1 a s)[j]
 ·subst e;simp
 ·rw[if_neg e,if_neg (by simpa using fun k=>e k.symm)];simp
theorem c0q(a:Aut)(cl:List Nat)(s:Int):K5 a cl s 0=[]:=by simp[K5]
theorem k0d(a:Aut)(cl:List Nat)(s:Int){j:Nat}(h:j<(Q1 a s).length):K5 a cl s (j+1)=Ji (K5 a cl s j) (clD cl (Q1 a s)[j]):=by unfold K5;rw[zU h,wL];rfl
theorem M5{ks:List Nat}{t u:Nat}:u∈Ji ks t↔u∈ks∨u=t:=by
 unfold Ji;split
 ·rename_i h;exact⟨.inl,fun k=>k.elim id (fun e=>e▸h)⟩
 ·simp
theorem k1q{ks:List Nat}{t:Nat}(h:ks.Nodup):(Ji ks t).Nodup:=by
 unfold Ji;split
 ·exact h
 ·rename_i hn;rw[vv];refine⟨h,by simp,fun x hx y hy e=>hn ?_⟩;rw[zQ]at hy;rw[←hy,←e];exact hx
theorem f0x(cl:List Nat):∀(l:List Mv) (ks:List Nat) (t:Nat),t∈l.foldl (fun ks m=>Ji ks (clD cl m)) ks↔t∈ks∨∃m∈l,clD cl m=t
 |[],ks,t=>by simp
 |m::l,ks,t=>by
  rw[xY,f0x cl l,M5];simp only[yE];constructor
  ·rintro((h|rfl)|⟨m',h1,h2⟩)
   ·exact .inl h
   ·exact .inr ⟨m,.inl rfl,rfl⟩
   ·exact .inr ⟨m',.inr h1,h2⟩
  ·rintro(h|⟨m',rfl|h1,h2⟩)
   ·exact .inl (.inl h)
   ·exact .inl (.inr h2.symm)
   ·exact .inr ⟨m',h1,h2⟩
theorem q28(cl:List Nat):∀(l:List Mv) (ks:List Nat),ks.Nodup→(l.foldl (fun ks m=>Ji ks (clD cl m)) ks).Nodup
 |[],_,h=>h
 |m::l,ks,h=>q28 cl l _ (k1q h)
theorem L3{a:Aut}{cl:List Nat}{s:Int}{j t:Nat}:t∈K5 a cl s j↔∃m∈(Q1 a s).take j,clD cl m=t:=by unfold K5;rw[f0x];simp
theorem j1y(a:Aut)(cl:List Nat)(s:Int)(j:Nat):(K5 a cl s j).Nodup:=q28 cl _ _ List.nodup_nil
theorem x1w{a:Aut}{cl:List Nat}{s:Int}{j t:Nat}(h:t∉K5 a cl s j):L0 a cl s j t=[]:=by unfold L0;rw[List.map_eq_nil_iff,List.filter_eq_nil_iff];intro m hm k;exact h (L3.2 ⟨m,hm,by simpa using k⟩)
attribute [simp] z2d
def kvG(ks:List Nat)(gs:Nat→List Prd)(L:Nat→Nat):List (AV×AV):=ks.map fun t:Nat=>(.i t,.sl (L t) 1 0 (gs t).length)
theorem j1z{ks:List Nat}(hn:ks.Nodup){gs:Nat→List Prd}{L:Nat→Nat}{j t np:Nat}(hj:ks[j]? =some t)(p:Prd):
  kvG ks (fun u=>if u=t then gs t++[p]else gs u) (fun u=>if u=t then np else L u)=(kvG ks gs L).set j (.i t,.sl np 1 0 ((gs t).length+1)):=by
 unfold kvG;refine xZ fun i=> ?_;obtain⟨z6,z1⟩:=zB.1 hj;by_cases hi:i<ks.length
 ·by_cases e:i=j
  ·subst e;rw[zO (by simpa using hi),zY,hj];simp
  ·rw[zE (Ne.symm e),zY,zY,zK hi];have:ks[i]≠t:=fun k=>e ((vT hn).1 (k.trans z1.symm));simp[this]
 ·rw[xL (by simp;omega),xL (by simp;omega)]
theorem u14{ks:List Nat}{gs:Nat→List Prd}{L:Nat→Nat}{t np:Nat}(ht:t∉ks)(h0:gs t=[])(p:Prd):
  kvG (ks++[t]) (fun u=>if u=t then gs t++[p]else gs u) (fun u=>if u=t then np else L u)=kvG ks gs L++[(.i t,.sl np 1 0 1)]:=by
 unfold kvG;rw[yP]
 congr 1
 ·refine xX fun u hu=> ?_;have:u≠t:=fun e=>ht (e▸hu);simp[this]
 ·simp[h0]
structure MG (K:List AObj) (M:Nat) (ks:List Nat) (gs:Nat→List Prd) (L:Nat→Nat) (H:List AObj):Prop where
 map:H[M]? =some (.mv (kvG ks gs L))
 leaf:∀t∈ks,H[L t]? =some (.arr 76 1 ((gs t).map encP))
 inj:∀t t',t∈ks→t'∈ks→L t=L t'→t=t'
 ne:∀t∈ks,L t≠M
 geM:K.length≤M
 geL:∀t∈ks,K.length≤L t
 keep:∀j,j<K.length→H[j]? =K[j]?
theorem MG.grow{K:List AObj}{M:Nat}{ks:List Nat}{gs:Nat→List Prd}{L:Nat→Nat}{H:List AObj}(h:MG K M ks gs L H)(E:List AObj):MG K M ks gs L (H++E):=by have hm:=Qh h.map;have z1:=h.geM;exact⟨Qb h.map E,fun t ht=>Qb (h.leaf t ht) E,h.inj,h.ne,h.geM,h.geL,fun j hj=>by rw[zF (by omega)];exact h.keep j hj⟩
theorem MG.put {K:List AObj} {M:Nat} {ks:List Nat} {gs:Nat→List Prd} {L:Nat→Nat} {H H':List AObj} (h:MG K M ks gs L H) {t:Nat} {p:Prd} {np:Nat} (zb:H.length≤np)
  (z8:H'[M]? =some (.mv (kvG (Ji ks t) (fun u=>if u=t then gs t++[p]else gs u) (fun u=>if u=t then np else L u)))) (z6:H'[np]? =some (.arr 76 1 ((gs t++[p]).map encP)))
  (hk:∀j,j<H.length→j≠M→(t∈ks→j≠L t)→H'[j]? =H[j]?):MG K M (Ji ks t) (fun u=>if u=t then gs t++[p]else gs u) (fun u=>if u=t then np else L u) H':=by
 have hm:=Qh h.map;have hL:=fun u hu=>Qh (h.leaf u hu);have z1:∀u,u∈Ji ks t→u≠t→u∈ks:=fun u hu za=>(M5.1 hu).resolve_right za;refine⟨z8,fun u hu=> ?_,fun u v hu hv e=> ?_,fun u hu=> ?_,h.geM,fun u hu=> ?_,fun j hj=> ?_⟩
 ·by_cases e:u=t
  ·subst e;simpa using z6
  ·simp only[e,if_false];have z7:=z1 u hu e;rw[hk _ (hL u z7) (h.ne u z7) (fun ht k=>e (h.inj u t z7 ht k))];exact h.leaf u z7
 ·by_cases e1:u=t
  ·by_cases e2:v=t
   ·rw[e1,e2]
   ·simp only[e1,e2,if_true,if_false]at e;have:=hL v (z1 v hv e2);omega
  ·by_cases e2:v=t
   ·simp only[e1,e2,if_true,if_false]at e;have:=hL u (z1 u hu e1);omega
   ·simp only[e1,e2,if_false]at e;exact h.inj u v (z1 u hu e1) (z1 v hv e2) e
 ·by_cases e:u=t
  ·simp only[e,if_true];omega
  ·simp only[e,if_false];exact h.ne u (z1 u hu e)
 ·have:=h.geM;by_cases e:u=t
  ·simp only[e,if_true];omega
  ·simp only[e,if_false];exact h.geL u (z1 u hu e)
 ·have zc:=h.geM;rw[hk j (by omega) (by omega) (fun ht e=>by have:=h.geL t ht;omega)];exact h.keep j hj
section
variable {nt k:Nat} {S:AS} {ops:Array Oper} {o:Oper} {R:AS→Prop}
theorem u04{ks:List Nat}(hk:∀t∈ks,t≤1000000)(gs:Nat→List Prd)(L:Nat→Nat):∀p∈kvG ks gs L,isKey Tryz.prog 3 p.1:=fun p hp=>by obtain⟨t,ht,rfl⟩:=zT.1 hp;exact Er ⟨by omega,by have:=hk t ht;omega⟩
theorem Hn {wr:Bool} (hw:Q3 ops S o=some true) (hd:W1 nt o=true) {x ix:Operand} (ho:o.op= .lookup 241 x ix false) {id:Nat} (hx:rho S.sl x=some (.mref id)) {t:Nat} (z1:rho S.sl ix=some (.i t)) {ks:List Nat} {gs:Nat→List Prd} {L:Nat→Nat} (z6:S.hp[id]? =some (.mv (kvG ks gs L)))
  (hk:∀t∈ks,t≤1000000) (ht:t≤1000000) (hR:R (S.putD o.dst (if t∈ks then .sl (L t) 1 0 (gs t).length else .nils))):Wn Tryz.prog nt k wr ops o S R:=by
 refine Lp tOk hw hd ho z2d rfl T91 Y0 hx z1 z6 (Er ⟨by omega,by omega⟩) (u04 hk gs L) (z:= .nils) (fun w I=> .nils ..) (fun j p hp he=> ?_) (fun z7=> ?_)
 ·unfold kvG at hp;rw[zY]at hp;obtain⟨u,hu,rfl⟩:=zV.1 hp;have z8:u=t:=by simp at he;omega
  subst z8;rw[if_pos (zJ hu)]at hR;exact hR
 ·have:t∉ks:=fun h=>z7 _ (zT.2 ⟨t,h,rfl⟩) rfl;rw[if_neg this]at hR;exact hR
theorem Kc (hw:Q3 ops S o=some true) (hd:W1 nt o=true) {x ix y:Operand} (ho:o.op= .mapUpdate 241 x ix y) {id:Nat} (hx:rho S.sl x=some (.mref id)) {t:Nat} (z6:rho S.sl ix=some (.i t)) {np n:Nat} (hy:rho S.sl y=some (.sl np 1 0 n)) {ks:List Nat} {gs:Nat→List Prd} {L:Nat→Nat} (z7:S.hp[id]? =some (.mv (kvG ks gs L)))
  (hk:∀t∈ks,t≤1000000) (ht:t≤1000000) (z8:ks.Nodup) (h0:t∉ks→gs t=[]) (p:Prd) (hn:n=(gs t).length+1) (hR:R (({ S with hp:=S.hp.set id (.mv (kvG (Ji ks t) (fun u=>if u=t then gs t++[p]else gs u) (fun u=>if u=t then np else L u))) }:AS).putD o.dst (.tup []))):Wn Tryz.prog nt k true ops o S R:=by
 subst hn;refine D9 tOk hw hd ho z2d rfl Y0 hx z6 hy z7 (Er ⟨by omega,by omega⟩) (u04 hk gs L) (fun j q hq he=> ?_) (fun za=> ?_)
 ·unfold kvG at hq;rw[zY]at hq;obtain⟨u,hu,rfl⟩:=zV.1 hq;have zb:u=t:=by simp at he;omega
  subst zb;have ha:Ji ks u=ks:=by unfold Ji;rw[if_pos (zJ hu)]
  rw[ha,j1z z8 hu p]at hR;exact hR
 ·have z1:t∉ks:=fun h=>za _ (zT.2 ⟨t,h,rfl⟩) rfl;have ha:Ji ks t=ks++[t]:=by unfold Ji;rw[if_neg z1]
  rw[ha,u14 z1 (h0 z1) p]at hR;rw[h0 z1];exact hR
end
end Go.Abs
namespace Go.Abs
open Go Go.Proofs Go.Maps Go.RowKit
def kvX(ks:List Nat)(gs:Nat→List Prd)(L:Nat→Nat)(k:Nat):List (AV×AV):=ks.mapIdx fun i (t:Nat)=>(.i t,if i<k then .list ((gs t).map encP)else .sl (L t) 1 0 (gs t).length)
theorem x19(ks:List Nat)(gs:Nat→List Prd)(L:Nat→Nat):kvX ks gs L 0=kvG ks gs L:=by unfold kvX kvG;refine xZ fun i=> ?_;rw[vG,zY];cases ks[i]? <;>simp
theorem k1a(ks:List Nat)(gs:Nat→List Prd)(L:Nat→Nat):kvX ks gs L ks.length=ks.map fun t:Nat=>(.i t,.list ((gs t).map encP)):=by
 unfold kvX;refine xZ fun i=> ?_;rw[vG,zY];by_cases h:i<ks.length
 ·rw[zK h];simp[h]
 ·rw[xL (by omega)];simp
theorem w1p{ks:List Nat}(hn:ks.Nodup){gs:Nat→List Prd}{L:Nat→Nat}(z1:∀t t',t∈ks→t'∈ks→L t=L t'→t=t'){k t:Nat}(hk:ks[k]? =some t):
  (kvX ks gs L k).map (fun p=>(p.1,p.2.fz (L t) 1 ((gs t).map encP)))=kvX ks gs L (k+1):=by
 obtain⟨z7,z6⟩:=zB.1 hk;unfold kvX;refine xZ fun i=> ?_;rw[zY,vG,vG];by_cases h:i<ks.length
 ·rw[zK h];simp only[Option.map_some];by_cases e:i=k
  ·subst e;rw[z6,if_neg (by omega),if_pos (by omega),AV.fz,if_pos ⟨rfl,rfl,by simp⟩];simp[zR]
  ·by_cases h2:i<k
   ·rw[if_pos h2,if_pos (by omega)];simp[AV.fz]
   ·rw[if_neg h2,if_neg (by omega),AV.fz,if_neg];rintro⟨e2,_⟩;have:=z1 _ _ (zL h) (zJ hk) e2;exact e ((vT hn).1 (this.trans z6.symm))
 ·rw[xL (by omega)];simp
section
variable {P:Program} [Env P] {nt kk:Nat} {cd:Code} {Q:Exit→AS→Prop}
theorem MG.freeze {M:Nat} {ks:List Nat} {gs:Nat→List Prd} {L:Nat→Nat} {sl:List (Nat×AV)} (hn:ks.Nodup) (z6:∀t t',t∈ks→t'∈ks→L t=L t'→t=t') (z8:∀t∈ks,L t≠M)
  (za:∀t∈ks,sl.map (fun p=>(p.1,p.2.fz (L t) 1 ((gs t).map encP)))=sl):∀(d k:Nat) (H:List AObj),k+d=ks.length→H[M]? =some (.mv (kvX ks gs L k))→(∀i t,k≤i→ks[i]? =some t→H[L t]? =some (.arr 76 1 ((gs t).map encP)))→
  (∀H',H'[M]? =some (.mv (kvX ks gs L ks.length))→H'.length=H.length→(∀j,j<H.length→j≠M→(∀t∈ks,j≠L t)→H'[j]? =H[j]?)→AWP P nt kk cd Q ⟨sl,H'⟩)→AWP P nt kk cd Q ⟨sl,H⟩
 |0,k,H,hd,hm,hl,h=>by
  have:k=ks.length:=by omega
  subst this;exact h H hm rfl fun _ _ _ _=>rfl
 |d+1,k,H,hd,hm,hl,h=>by
  have zb:k<ks.length:=by omega
  have hk:ks[k]? =some ks[k]:=zK zb;have z1:=zL zb;generalize ks[k]=t at *
  have zf:=hl k t (zP _) hk;have zg:=Qh hm;refine U4 (L t) zf M hm (Ne.symm (z8 t z1)) rfl ?_;rw[za t z1,AObj.fz,w1p hn z6 hk];refine MG.freeze hn z6 z8 za d (k+1) _ (by omega) (zO (by simpa using zg)) (fun i u hi hu=> ?_) fun H' zh z7 zi=>h H' zh (by simpa using z7) fun j hj zc zd=> ?_
  ·have ze:=zJ hu;rw[zE (Ne.symm (z8 u ze)),zE (fun e2=> ?_)]
   ·exact hl i u (by omega) hu
   ·have e3:=z6 t u z1 ze e2;subst e3;obtain⟨h1,h2⟩:=zB.1 hk;obtain⟨h3,h4⟩:=zB.1 hu;have:=(vT hn).1 (h2.trans h4.symm);omega
  ·rw[zi j (by simpa using hj) zc zd,zE (Ne.symm zc),zE (Ne.symm (zd t z1))]
end
end Go.Abs
namespace Go.Abs
theorem Nb{o:List Nat}{c:Nat}(h:c∈o):∃i,Xm o c=i∧o[i]? =some c∧∀j,j<i→o[j]? ≠some c:=by
 unfold Xm;cases hf:o.findIdx? fun d=>decide (d=c)with
 |none=>rw[wY]at hf;have:=hf c h;simp at this
 |some i=>rw[List.findIdx?_eq_some_iff_getElem]at hf;obtain⟨h1,h2,h3⟩:=hf;refine⟨i,rfl,by rw[zK h1];simpa using h2,fun j hj e=> ?_⟩;obtain⟨hl,e2⟩:=zB.1 e;have:=h3 j hj;rw[e2]at this;simp at this
theorem q0h{o:List Nat}{c:Nat}(h:c∈o)(r:List Nat):Xm (o++r) c=Xm o c:=by
 obtain⟨i,e,h1,h2⟩:=Nb h;obtain⟨k,e',h3,h4⟩:=Nb (o:=o++r) (xA r h);rw[e,e'];have z1:=Ex h1;rcases Nat.lt_trichotomy i k with hl|hl|hl
 ·have:=h4 i hl;rw[zF z1]at this;exact absurd h1 this
 ·exact hl.symm
 ·rw[zF (by omega)]at h3;exact absurd h3 (h2 k hl)
theorem g0v{o:List Nat}{c:Nat}(h:c∉o):Xm (o++[c]) c=o.length:=by
 obtain⟨k,e',h3,h4⟩:=Nb (o:=o++[c]) (c:=c) (by simp);rw[e'];have hk:=Ex h3;simp at hk;by_cases hl:k<o.length
 ·rw[zF hl]at h3;exact absurd (zJ h3) h
 ·omega
theorem w1l{o:List Nat}{c d:Nat}(h:c∈o):Xm (Fs o d) c=Xm o c:=by obtain⟨r,e,_⟩:=Fm o d;rw[e,q0h h]
theorem Jc{o:List Nat}{l:List Mv}{j:Nat}(h:j<l.length):Wq o (l.take (j+1))=Fs (Wq o (l.take j)) l[j].dst.toNat:=by unfold Wq;rw[zU h,wL];rfl
theorem z03{o:List Nat}{l:List Mv}{m:Mv}(h:m∈l):m.dst.toNat∈Wq o l:=by
 induction l generalizing o with
 |nil=>cases h
 |cons x l ih=>
  have pre:∀(l:List Mv) (o:List Nat) (c:Nat),c∈o→c∈Wq o l:=by
   intro l;induction l with
   |nil=>intro o c hc;exact hc
   |cons y l ih2=>intro o c hc;refine ih2 (Fs o y.dst.toNat) c ?_;obtain⟨r,e,_⟩:=Fm o y.dst.toNat;rw[e];exact xA _ hc
  rcases yE.1 h with rfl|h
  ·exact pre l _ _ (M6 _ _)
  ·exact ih h
theorem Sx(o:List Nat)(l:List Mv):∃r,Wq o l=o++r:=by
 induction l generalizing o with
 |nil=>exact⟨[],by simp[Wq]⟩
 |cons x l ih=>obtain⟨r,e⟩:=ih (Fs o x.dst.toNat);obtain⟨r',e',_⟩:=Fm o x.dst.toNat;refine⟨r'++r,?_⟩;have:Wq o (x::l)=Wq (Fs o x.dst.toNat) l:=rfl;rw[this,e,e',xT]
def qMv(o:List Nat)(l:List Mv)(n j:Nat):List Mv:=(l.take j).map fun m=>⟨n,(Xm (Wq o (l.take j)) m.dst.toNat:Nat),m.on⟩
theorem M9(o:List Nat)(l:List Mv)(n:Nat):qMv o l n 0=[]:=by simp[qMv]
theorem k13(o:List Nat)(l:List Mv)(n j:Nat):(qMv o l n j).length≤l.length:=by unfold qMv;simp;omega
theorem z15(o:List Nat)(l:List Mv)(n:Nat){j:Nat}(h:j<l.length):
  qMv o l n (j+1)=qMv o l n j++[⟨n,(Xm (Fs (Wq o (l.take j)) l[j].dst.toNat) l[j].dst.toNat:Nat),l[j].on⟩]:=by
 unfold qMv;rw[Jc h,zU h,yP]
 congr 1
 refine xX fun m hm=> ?_;rw[w1l (z03 hm)]
theorem g1q(a:Aut){o:List Nat}{n:Nat}{c:Nat}(h:o[n]? =some c):qMv o (Pn a c) n (Pn a c).length=mvN a (Wq o (Pn a c)) n:=by
 unfold qMv mvN;rw[yW];obtain⟨r,e⟩:=Sx o (Pn a c);have:(Wq o (Pn a c)).getD n 0=c:=by rw[e,yX,zF (Ex h),h];rfl
 rw[this]
structure QI (a:Aut) (i:Nat) (o:List Nat):Prop where
 nd:o.Nodup
 cl:∀c∈o,Lq a c
 le:i≤o.length
 bfs:Gp a (a.fin.length+1 - i) i o=u0p a
 done:∀(j c:Nat),j<i→o[j]? =some c→∀m∈Pn a c,m.dst.toNat∈o
theorem QI.zero{a:Aut}(ha:Dfa a):QI a 0 [Yk a 0]:=
 ⟨by simp,fun c hc=>by rw[zQ.1 hc];exact q0m ha ha.zero,by simp,rfl,fun j c hj=>by omega⟩
theorem QI.len{a:Aut}(ha:Dfa a){i:Nat}{o:List Nat}(h:QI a i o):o.length≤a.fin.length:=d04 ha h.nd h.cl
theorem QI.step{a:Aut}(ha:Dfa a){i:Nat}{o:List Nat}(h:QI a i o){c:Nat}(hc:o[i]? =some c):QI a (i+1) (Wq o (Pn a c)):=by
 have hl:=h.len ha;have hi:=Ex hc;obtain⟨⟨r,h1,h2⟩,h3,h4⟩:=Pr (Pn a c) o h.nd;have z1:=h.cl c (zJ hc);refine⟨h3,fun d hd=> ?_,by rw[h1,zZ];omega,?_,fun j d hj hd m hm=> ?_⟩
 ·rw[h1]at hd;rcases zW.1 hd with hd|hd
  ·exact h.cl d hd
  ·obtain⟨m,hm,e⟩:=h2 d hd;obtain⟨x,_,e2,_,e4,_⟩:=Xa ha z1 hm;rw[e,e2];simpa using e4
 ·have:=h.bfs;rw[show a.fin.length+1 - i=(a.fin.length+1 - (i+1))+1 by omega,Gp,hc]at this;exact this
 ·rw[h1,zF (by omega)]at hd;by_cases e:j=i
  ·subst e;rw[hc]at hd;cases hd;exact h4 m hm
  ·rw[h1];exact xA _ (h.done j d (by omega) hd m hm)
theorem QI.fin{a:Aut}(ha:Dfa a){i:Nat}{o:List Nat}(h:QI a i o)(hi:i=o.length):o=u0p a:=by have hl:=h.len ha;have:=h.bfs;rw[show a.fin.length+1 - i=(a.fin.length - i)+1 by omega,Gp,xL (by omega)]at this;exact this
def qM(a:Aut)(i:Nat)(o:List Nat):List Mv:=(yO i).flatMap (mvN a o)
theorem k0b(a:Aut)(o:List Nat):qM a 0 o=[]:=by simp[qM]
theorem k1u{a:Aut}{i:Nat}{o:List Nat}(h:QI a i o){c:Nat}(hc:o[i]? =some c):qM a (i+1) (Wq o (Pn a c))=qM a i o++qMv o (Pn a c) i (Pn a c).length:=by
 rw[g1q a hc];unfold qM;rw[wH,wp]
 congr 1
 ·rw[tE,tE]
  congr 1
  refine xX fun j hj=> ?_;have z1:=y_.1 hj;have z6:j<o.length:=wB z1 h.le;obtain⟨r,e⟩:=Sx o (Pn a c);have g1:(Wq o (Pn a c)).getD j 0=o.getD j 0:=by rw[e,yX,yX,zF z6]
  unfold mvN;rw[g1];refine xX fun m hm=> ?_;have hg:o[j]? =some (o.getD j 0):=by simp[yX,z6]
  rw[e,q0h (h.done j _ z1 hg m hm)]
 ·simp
def qF(a:Aut)(o:List Nat):List Bool:=o.map fun c=>a.fin.getD (Ii a c) false
theorem k10(a:Aut){o:List Nat}{i:Nat}{c:Nat}(l:List Mv)(h:o[i]? =some c):qF a ((Wq o l).take (i+1))=qF a (o.take i)++[a.fin.getD (Ii a c) false]:=by obtain⟨r,e⟩:=Sx o l;have hi:=Ex h;rw[e,List.take_append_of_le_length (by omega)];obtain⟨_,rfl⟩:=zB.1 h;rw[zU hi];unfold qF;rw[yP,yZ,wG]
theorem Uo(o:List Nat):Wq o []=o:=rfl
theorem x04(o:List Nat)(l:List Mv){n:Nat}(h:l.length≤n):(Wq o l).length≤o.length+n:=by
 have key:∀(l:List Mv) (o:List Nat),(Wq o l).length≤o.length+l.length:=by
  intro l;induction l with
  |nil=>intro o;simp[Wq]
  |cons x l ih=>
   intro o;have h1:=ih (Fs o x.dst.toNat);have h2:(Fs o x.dst.toNat).length≤o.length+1:=by unfold Fs;split<;>simp
   have h3:Wq o (x::l)=Wq (Fs o x.dst.toNat) l:=rfl;rw[h3,yS];omega
 have:=key l o;omega
theorem d1n(a:Aut):qF a []=[]:=rfl
theorem u1s(a:Aut)(o:List Nat):(qF a o).length=o.length:=by simp[qF]
theorem d1d{a:Aut}(ha:Dfa a){i:Nat}{o:List Nat}(h:QI a i o):(qM a i o).length≤600000:=by
 have hl:=h.len ha;have hf:=ha.ok.fin;have hm:=ha.ok.mvs;have key:∀j,j≤i→((yO j).flatMap (mvN a o)).length≤j * 2048:=by
  intro j;induction j with
  |zero=>intro _;simp
  |succ j ih=>
   intro hj;rw[wH,wp,zZ];have h1:=ih (by omega);have h2:(mvN a o j).length≤2048:=by
    have z1:j<o.length:=wB hj h.le;have hc:=h.cl _ (zL z1);have e:o.getD j 0=o[j]:=by simp[yX,z1]
    have h3:=Zu ha hc;have h4:(Q1 a (Ii a o[j]:Nat)).length≤a.mv.length:=wd _ _;unfold mvN;rw[yB,e];omega
   simp only[List.flatMap_cons,List.flatMap_nil,xB];omega
 have:=key i (zP _);have:=h.le;unfold qM;omega
theorem u10{a:Aut}(ha:Dfa a){i:Nat}{o:List Nat}(h:QI a i o)(hi:i=o.length):E2 a=⟨a.types,qF a (o.take i),qM a i o⟩:=by have:=h.fin ha hi;rw[hi,yW];unfold E2 G9 qF qM;rw[←this]
end Go.Abs
namespace Go.Abs
open Go Go.Proofs
theorem v1m(l:List Int)(n:Int):PC Tryz.prog 143 [LI l,.i n] (fun r=>r= .i (Js (fun m:Int=>m==n) l)):=by
 refine Qk tOk Tryz.func143 rfl Tryz.results143 rfl (by simp[Tryz.ntmps143]) ?_;rw[Tryz.ntmps143];simp only[Qg];refine Ys 0 rfl (fun hlen=> ?_);rw[yB]at hlen;repeat first|(refine r_ ?_;simp)|refine q_ ?_
 refine Qt l.length (fun j=>∀i,∀hi:i<l.length,i<j→(l[i]==n)=false) (fun j=>[(0,LI l),(1,.i n),(5,.i j)]) (fun _=>[]) rfl (by simp) (by simp) (by simp) (by simp) (by simp) ?_;intro j hj hI ih;repeat first|(refine r_ ?_;simp)|refine q_ ?_
 refine Qa rfl (fun z7=> ?_) (fun z8=> ?_)
 ·have z1:j<l.length:=by simpa using z7
  have hw:IntKind.i64.wrap ((j:Int)+1)=j+1:=wrap_i64 _ (by omega) (by omega);repeat first|(refine r_ ?_;simp[z1])|refine q_ ?_
  refine Qa rfl (fun h=> ?_) (fun h=> ?_)
  ·repeat first|(refine r_ ?_;simp)|refine q_ ?_
   rw[Hx (f:=fun m:Int=>m==n) z1 h hI]
  ·repeat first|(refine r_ ?_;simp[hw])|refine q_ ?_
   refine Qr _ (ih z1 (fun i hi za=> ?_)) rfl (by simp) ?_ (by simp) (by simp)
   ·by_cases e:i=j
    ·subst e;exact h
    ·exact hI i hi (by omega)
   ·simp
 ·have z6:j=l.length:=by simp at z8;omega
  subst z6;repeat first|(refine r_ ?_;simp)|refine q_ ?_
  rw[Sl (f:=fun m:Int=>m==n) hI]
def v2i(l:List Int)(n:Int):Int:=if Js (fun m:Int=>m==n) l<0 then 0 else Js (fun m:Int=>m==n) l
theorem v1a(l:List Nat)(c:Nat):Js (fun m:Int=>m==(c:Int)) (Ye l)=match l.findIdx? fun d=>decide (d=c)with|some i=>(i:Int)|none=> -1:=by
 have e:(Ye l).findIdx? (fun m:Int=>m==(c:Int))=l.findIdx? fun d=>decide (d=c):=by
  rw[tw]
  congr 1
  funext x;simp only[Function.comp];rw[wt];simp;omega
 unfold Js;rw[e];cases l.findIdx? fun d=>decide (d=c)<;>rfl
theorem z1v{l:List Nat}{c:Nat}(h:c∈l):Js (fun m:Int=>m==(c:Int)) (Ye l)=(Xm l c:Nat):=by
 rw[v1a];unfold Xm;cases hf:l.findIdx? fun d=>decide (d=c)with
 |none=>rw[wY]at hf;have:=hf c h;simp at this
 |some i=>rfl
end Go.Abs
namespace Go.Abs
open Go Go.Proofs Go.Maps Go.RowKit
def kvO(o:List Nat):List (AV×AV):=o.zipIdx.map fun x=>(AV.i (x.1:Nat),AV.i (x.2:Nat))
def mpO(o:List Nat):AObj:= .mp (kvO o)
theorem M1{o:List Nat}{j:Nat}{p:AV×AV}(h:(kvO o)[j]? =some p):∃c,o[j]? =some c∧p=(AV.i (c:Nat),AV.i (j:Nat)):=by unfold kvO at h;rw[zY,th]at h;obtain⟨x,hx,rfl⟩:=zV.1 h;obtain⟨c,hc,rfl⟩:=zV.1 hx;exact⟨c,hc,by simp⟩
theorem x15(o:List Nat)(c:Nat):kvO (o++[c])=kvO o++[(AV.i (c:Nat),AV.i (o.length:Nat))]:=by unfold kvO;rw[List.zipIdx_append,yP];simp
theorem j13{o:List Nat}{p:AV×AV}(h:p∈kvO o):∃c∈o,p.1=AV.i (c:Nat):=by obtain⟨j,hj⟩:=yJ.1 h;obtain⟨c,hc,rfl⟩:=M1 hj;exact⟨c,zJ hc,rfl⟩
theorem d0w{o:List Nat}(hb:∀c∈o,c≤1000000):∀p∈kvO o,isKey Tryz.prog 3 p.1:=fun p hp=>by obtain⟨c,hc,e⟩:=j13 hp;rw[e];exact Er ⟨by omega,by have:=hb c hc;omega⟩
section
variable {nt k:Nat} {S:AS} {ops:Array Oper} {o:Oper} {R:AS→Prop}
theorem Mo {wr:Bool} (hw:Q3 ops S o=some true) (hd:W1 nt o=true) {x ix:Operand} (ho:o.op= .lookup 192 x ix true) {id:Nat} (hx:rho S.sl x=some (.mref id)) {c:Nat} (z6:rho S.sl ix=some (.i (c:Nat))) {l:List Nat} (z7:S.hp[id]? =some (mpO l)) (hn:l.Nodup) (hb:∀c∈l,c≤1000000) (hc:c≤1000000)
  (hR:R (S.putD o.dst (.tup [.i ((if c∈l then Xm l c else 0:Nat)),.bool (decide (c∈l))]))):Wn Tryz.prog nt k wr ops o S R:=by
 refine Y9 tOk hw hd ho y2g rfl T3 Y0 hx z6 z7 (Er ⟨by omega,by omega⟩) (d0w hb) (z:= .i 0) rfl (fun j p hp he=> ?_) (fun z8=> ?_)
 ·obtain⟨c',z1,rfl⟩:=M1 hp;have za:c'=c:=by simp at he;omega
  subst za;have hm:=zJ z1;rw[if_pos hm,f0p hn z1]at hR;simpa[hm]using hR
 ·have hm:c∉l:=fun h=>by
   obtain⟨j,hj⟩:=yJ.1 h;have zb:=Ex hj;have:(kvO l)[j]? =some (AV.i (c:Nat),AV.i (j:Nat)):=by unfold kvO;rw[zY,th,hj];simp
   exact z8 _ (zJ this) rfl
  rw[if_neg hm]at hR;simpa[hm]using hR
theorem v06 (hw:Q3 ops S o=some true) (hd:W1 nt o=true) {x ix y:Operand} (ho:o.op= .mapUpdate 192 x ix y) {id:Nat} (hx:rho S.sl x=some (.mref id)) {c:Nat} (z1:rho S.sl ix=some (.i (c:Nat))) {l:List Nat} (hy:rho S.sl y=some (.i (l.length:Nat))) (z6:S.hp[id]? =some (mpO l)) (hb:∀c∈l,c≤1000000) (hc:c≤1000000) (hn:c∉l)
  (hR:R (({ S with hp:=S.hp.set id (mpO (l++[c])) }:AS).putD o.dst (.tup []))):Wn Tryz.prog nt k true ops o S R:=by
 refine Te tOk hw hd ho y2g rfl Y0 hx z1 hy (by simp[AV.pure]) z6 (Er ⟨by omega,by omega⟩) (d0w hb) (fun j p hp he=> ?_) (fun za=> ?_)
 ·obtain⟨c',z7,rfl⟩:=M1 hp;have z8:c'=c:=by simp at he;omega
  subst z8;exact absurd (zJ z7) hn
 ·have:mpO (l++[c])= .mp (kvO l++[(AV.i (c:Nat),AV.i (l.length:Nat))]):=by unfold mpO;rw[x15]
  rw[this]at hR;exact hR
theorem v04 (hw:Q3 ops S o=some true) (hd:W1 nt o=true) {x ix y:Operand} (ho:o.op= .insert 192 x ix y) {id:Nat} (hx:rho S.sl x=some (.mref id)) {c:Nat} (z1:rho S.sl ix=some (.i (c:Nat))) (hy:rho S.sl y=some (.i 0)) (z6:S.hp[id]? =some (.mp [])) (hc:c≤1000000)
  (hR:R (({ S with hp:=S.hp.set id (mpO [c]) }:AS).putD o.dst (.tup []))):Wn Tryz.prog nt k true ops o S R:=by
 refine Dt tOk hw hd ho y2g rfl Y0 hx z1 hy (by simp[AV.pure]) z6 (Er ⟨by omega,by omega⟩) (fun p hp=>by cases hp) (fun j p hp he=>by cases hp) (fun z7=> ?_);exact hR
end
end Go.Abs
/-
 DERIVED:THE SHELF's CONTRACTS AT THIS DUMP,IN PLAIN WORDS (tools/lay-plain.mjs out of 'TryzShelf.lean',which tools/lay-shelf.mjs wrote):THE SAME DECLARATIONS UNDER THE SAME NAMES:'import','namespace','open','def','theorem' AND NOTHING ELSE:no command of the shelf's:FOR A HAND-IN. Each laying:the table of numbers ('.._ren') and one theorem,a field a fact of the dump's own or the kernel's comparison;each contract:ONE APPLICATION.
-/
namespace Go.Proofs
open Go.Shelf
def Tryz.sortMv_ren:Go.Shelf.Ren:=⟨fun|6=>186|15=>199|14=>203|28=>216|29=>217|20=>227|21=>228|22=>229|23=>230|24=>231|25=>232|26=>233|27=>234|46=>247|47=>236|48=>237|49=>248|50=>249|57=>256|n=>n,fun|22=>23|24=>78|25=>243|3=>3|39=>213|0=>0|53=>247|55=>250|4=>4|46=>263|45=>262|50=>134|5=>5|9=>9|66=>281|70=>285|76=>296|77=>297|n=>n,fun|n=>n⟩
theorem Tryz.sortMv:Go.Proofs.SlLaysF0.n6 Tryz.prog Tryz.sortMv_ren:={
 mixed:=by kernel_rfl
 f6:=⟨Tryz.f186.name,by decide,Tryz.func186.trans (congrArg some (by kernel_rfl))⟩
 f14:=⟨Tryz.f203.name,by decide,Tryz.func203.trans (congrArg some (by kernel_rfl))⟩
 f15:=Tryz.func199.trans (congrArg some (by kernel_rfl))
 f20:=⟨Tryz.f227.name,by decide,Tryz.func227.trans (congrArg some (by kernel_rfl))⟩
 f21:=⟨Tryz.f228.name,by decide,Tryz.func228.trans (congrArg some (by kernel_rfl))⟩
 f22:=⟨Tryz.f229.name,by decide,Tryz.func229.trans (congrArg some (by kernel_rfl))⟩
 f23:=⟨Tryz.f230.name,by decide,Tryz.func230.trans (congrArg some (by kernel_rfl))⟩
 f24:=⟨Tryz.f231.name,by decide,Tryz.func231.trans (congrArg some (by kernel_rfl))⟩
 f25:=⟨Tryz.f232.name,by decide,Tryz.func232.trans (congrArg some (by kernel_rfl))⟩
 f26:=⟨Tryz.f233.name,by decide,Tryz.func233.trans (congrArg some (by kernel_rfl))⟩
 f27:=⟨Tryz.f234.name,by decide,Tryz.func234.trans (congrArg some (by kernel_rfl))⟩
 f28:=Tryz.func216.trans (congrArg some (by kernel_rfl))
 f29:=Tryz.func217.trans (congrArg some (by kernel_rfl))
 f46:=⟨Tryz.f247.name,by decide,Tryz.func247.trans (congrArg some (by kernel_rfl))⟩
 f47:=Tryz.func236.trans (congrArg some (by kernel_rfl))
 f48:=Tryz.func237.trans (congrArg some (by kernel_rfl))
 f49:=⟨Tryz.f248.name,by decide,Tryz.func248.trans (congrArg some (by kernel_rfl))⟩
 f50:=⟨Tryz.f249.name,by decide,Tryz.func249.trans (congrArg some (by kernel_rfl))⟩
 f57:=⟨Tryz.f256.name,by decide,Tryz.func256.trans (congrArg some (by kernel_rfl))⟩
 t0:=Tryz.underlying0
 a0:=Tryz.isAgg0
 z0:=Tryz.sizeOf0
 v0:=Tryz.zeroValue0
 t3:=Tryz.underlying3
 a3:=Tryz.isAgg3
 z3:=Tryz.sizeOf3
 v3:=Tryz.zeroValue3
 t4:=Tryz.underlying4
 a4:=Tryz.isAgg4
 z4:=Tryz.sizeOf4
 v4:=Tryz.zeroValue4
 t5:=Tryz.underlying5
 a5:=Tryz.isAgg5
 z5:=Tryz.sizeOf5
 v5:=Tryz.zeroValue5
 t9:=Tryz.underlying9
 a9:=Tryz.isAgg9
 z9:=Tryz.sizeOf9
 v9:=Tryz.zeroValue9
 t22:=Tryz.underlying23
 a22:=Tryz.isAgg23
 z22:=Tryz.sizeOf23
 v22:=Tryz.zeroValue23
 t25:=Tryz.underlying243
 a25:=Tryz.isAgg243
 z25:=Tryz.sizeOf243
 v25:=Tryz.zeroValue243
 t39:=Tryz.underlying213
 a39:=Tryz.isAgg213
 z39:=Tryz.sizeOf213
 v39:=Tryz.zeroValue213
 t45:=Tryz.underlying262
 a45:=Tryz.isAgg262
 z45:=Tryz.sizeOf262
 v45:=Tryz.zeroValue262
 t46:=Tryz.underlying263
 a46:=Tryz.isAgg263
 z46:=Tryz.sizeOf263
 v46:=Tryz.zeroValue263
 t50:=Tryz.underlying134
 a50:=Tryz.isAgg134
 z50:=Tryz.sizeOf134
 v50:=Tryz.zeroValue134
 t53:=Tryz.underlying247
 a53:=Tryz.isAgg247
 z53:=Tryz.sizeOf247
 v53:=Tryz.zeroValue247
 t55:=Tryz.underlying250
 a55:=Tryz.isAgg250
 z55:=Tryz.sizeOf250
 v55:=Tryz.zeroValue250
 t66:=Tryz.underlying281
 a66:=Tryz.isAgg281
 z66:=Tryz.sizeOf281
 v66:=Tryz.zeroValue281
 t70:=Tryz.underlying285
 a70:=Tryz.isAgg285
 z70:=Tryz.sizeOf285
 v70:=Tryz.zeroValue285
 t76:=Tryz.underlying296
 a76:=Tryz.isAgg296
 z76:=Tryz.sizeOf296
 v76:=Tryz.zeroValue296
 t77:=Tryz.underlying297
 a77:=Tryz.isAgg297
 z77:=Tryz.sizeOf297
 v77:=Tryz.zeroValue297 }
end Go.Proofs
namespace Go.Abs
open Go Go.Proofs Go.RowKit Go.Shelf Go.Lib Go.Sort
def ltM(m k:Mv):Bool:=Z8 (kyM m) (kyM k)
def z2a(m k:Mv):Int:=if ltM m k=true then -1 else 1
def gdM(T:Nat)(m:Mv):Prop:=PWf T m.on∧Wf m.on=false∧∀s∈m.on,s.length≤1000000000
attribute [local irreducible] Eh Qy Qp Zg
theorem j1s(T:Nat)(hT:T≤16)(m k:Mv)(hm:gdM T m)(hk:gdM T k):PC Tryz.prog 187 [encMv m,encMv k] (fun r=>r= .i (z2a m k)):=by
 refine Qk tOk Tryz.func187 rfl Tryz.results187 rfl (by simp[Tryz.ntmps187]) ?_;rw[Tryz.ntmps187];simp only[Qg];simp only[encMv];have h1:=Nn hm.1;have h2:=Nn hk.1;rw[hm.2.1]at h1;rw[hk.2.1]at h2;have h3:=v1z m.on k.on;have hR:z2a m k=if Zg (Qp m.on) (Qp k.on)=true then -1 else 1:=by rw[h3];rfl
 rw[hR];repeat first|(refine r_ ?_;simp)|refine q_ ?_
 refine Qe rfl rfl (by simp) (Sa T m.on m.on hm.1 hm.1 hm.2.2 hm.2.2 (by omega)) rfl ?_;rintro _ rfl;simp;rw[h1];simp[N5];repeat first|(refine r_ ?_;simp)|refine q_ ?_
 refine Qe rfl rfl (by simp) (Sa T k.on k.on hk.1 hk.1 hk.2.2 hk.2.2 (by omega)) rfl ?_;rintro _ rfl;simp;rw[h2];simp[N5];repeat first|(refine r_ ?_;simp)|refine q_ ?_
 refine Qe rfl rfl (by simp) (Kp (Qp m.on) (Qp k.on)) rfl ?_;rintro _ rfl;simp;cases hb:Zg (Qp m.on) (Qp k.on)with
 |true=>refine Ql rfl ?_;repeat (first|(refine r_ ?_;simp)|refine q_ ?_)
 |false=>refine Ql rfl ?_;repeat first|(refine r_ ?_;simp)|refine q_ ?_
theorem d09{w:World}{I:Nat→Prop}{v:Value}{k:IntKind}{n:Int}(h:PVR w I v (.int k n)):v.oneCell'=true:=by cases h;rfl
theorem v1l{w:World}{I:Nat→Prop}{v:Value}{xs:List AV}(h:PVR w I v (.list xs)):v.oneCell'=true:=by cases h;rfl
def GdE(T:Nat)(w:World)(I:Nat→Prop)(x:List Value×Mv):Prop:=x.1.length=3∧(∀v∈x.1,v.oneCell'=true)∧gdM T x.2∧∀(j:Nat) (y:AV),(encMv x.2).cells[j]? =some y→∃v,x.1[j]? =some v∧PVR w I v y
abbrev MvE (T:Nat) (w:World) (I:Nat→Prop):={ x:List Value×Mv // GdE T w I x }
def u0o{T:Nat}{w:World}{I:Nat→Prop}(x:MvE T w I):List Value:=x.1.1
def d1p{T:Nat}{w:World}{I:Nat→Prop}(x y:MvE T w I):Int:=z2a x.1.2 y.1.2
theorem ltE{T:Nat}{w:World}{I:Nat→Prop}(x y:MvE T w I):ltOf d1p x y=ltM x.1.2 y.1.2:=by unfold ltOf d1p z2a;cases ltM x.1.2 y.1.2<;>rfl
theorem x2z{T:Nat}{w:World}{I:Nat→Prop}:SWO (ltOf (d1p (T:=T) (w:=w) (I:=I))) where
 irrefl x:=by rw[ltE,←uI];intro h;exact Ib.irr ((Th _ _).1 h)
 trans x y z h1 h2:=by rw[ltE]at *;exact(Th _ _).2 (((Th _ _).1 h1).trans ((Th _ _).1 h2))
 ntrans x y z h1 h2:=by
  rw[ltE]at *;rw[←uI]at *;intro h
  have h3:=(Th _ _).1 h;have h4:¬Ib (kyM x.1.2).1 (kyM x.1.2).2 (kyM y.1.2).1 (kyM y.1.2).2:=fun k=>h1 ((Th _ _).2 k);have h5:¬Ib (kyM y.1.2).1 (kyM y.1.2).2 (kyM z.1.2).1 (kyM z.1.2).2:=fun k=>h2 ((Th _ _).2 k);unfold Ib at *;omega
theorem x1f(m:Mv):(encMv m).cells=[.i m.src,.i m.dst,.list (m.on.map encL)]:=rfl
theorem Fv{T:Nat}{w:World}{I:Nat→Prop}{l:List Mv}{F:Array Value}(hR:RowW w I 3 (l.map encMv) F)(hg:∀m∈l,gdM T m){i:Nat}(hi:i<l.length):GdE T w I ([F[i * 3]!,F[i * 3+1]!,F[i * 3+2]!],l[i]):=by
 have hx:(l.map encMv)[i]? =some (encMv l[i]):=by simp[hi]
 have c0:=hR.cell i _ hx 0 _ rfl;have c1:=hR.cell i _ hx 1 _ rfl;have c2:=hR.cell i _ hx 2 _ rfl;rw[Nat.add_zero]at c0;refine⟨rfl,fun v hv=> ?_,hg _ (zL hi),fun j y hy=> ?_⟩
 ·simp only[yE,List.not_mem_nil,or_false]at hv;rcases hv with rfl|rfl|rfl
  ·exact d09 c0
  ·exact d09 c1
  ·exact v1l c2
 ·rw[x1f]at hy
  match j,hy with
  |0,hy=>simp at hy;subst hy;exact⟨_,rfl,c0⟩
  |1,hy=>simp at hy;subst hy;exact⟨_,rfl,c1⟩
  |2,hy=>simp at hy;subst hy;exact⟨_,rfl,c2⟩
theorem c0r(T:Nat)(hT:T≤16)(H:List AObj)(p:Nat)(l:List Mv)(hp:H[p]? =some (.arr 78 3 (l.map encMv)))(hl:l.length≤1000000)(hg:∀m∈l,gdM T m):
  FC Tryz.prog 186 [.sl p 3 0 l.length,.fn (.func 187) [] []] H
   (fun r H'=>r= .tup []∧∃l':List Mv,l'.Perm l∧l'.Pairwise (fun x y=>ltM y x=false)∧H'=H.set p (.arr 78 3 (l'.map encMv))):=by
 refine(k1l (xs:=l.map encMv) (Yi Tryz.func186 rfl rfl) (by simp) hp [.func (.func 187) #[] #[]] (fun w I m vs a b=>Mf _ w I m _ vs a b) (fun zc=>∃l':List Mv,l'.Perm l∧l'.Pairwise (fun x y=>ltM y x=false)∧zc=l'.map encMv) ?_ ?_).mono ?_
 ·intro w I b cap F hE hI zg hR hH hb hc;have zh:F.size=l.length * 3:=by have:=hR.size;simpa using this
  by_cases z6:l=[]
  ·subst z6;refine Calls.mono (AnyF.slices_SortFunc_none Tryz.sortMv (some ⟨b,0,none⟩) cap _ w) ?_;rintro e w' ⟨rfl,rfl⟩;refine⟨rfl,[],F,0,#[],⟨[],.refl _,.nil,rfl⟩,rfl,hR,?_⟩;rw[grow_empty];exact(putRow_self id w' b 0 F hH).symm
  ·have z8:0<l.length:=List.length_pos_iff.2 z6;have eg:∀args w,(callFunc 187 args).run Tryz.prog w= .ok (.enter 187 args) w:=enters_of Tryz.func187 (by kernel_rfl) rfl;let _:Inhabited (MvE T w I):=⟨⟨_,Fv hR hg z8⟩⟩
   obtain⟨dl,za⟩:∃dl:List (MvE T w I),dl=List.ofFn fun i:Fin l.length=>(⟨_,Fv hR hg i.2⟩:MvE T w I):=⟨_,rfl⟩
   have z7:dl.length=l.length:=by rw[za];simp
   have zd:∀i (h:i<l.length),dl[i]? =some ⟨_,Fv hR hg h⟩:=fun i h=>by rw[za];simp[h]
   have zi:dl.map (fun x=>x.1.2)=l:=by
    refine xZ fun i=> ?_;rw[zY];by_cases h:i<l.length
    ·rw[zd i h,zK h];rfl
    ·rw[xL (by omega),xL (by omega)];rfl
   clear za;have zj:flatK u0o 3 dl.toArray=F:=by
    refine ext_get! (by simp[z7,zh]) fun t ht=> ?_;have zk:t<dl.length * 3:=by simpa using ht
    rw[get_flatK _ _ _ _ (by simpa using zk)];have hi:t / 3<l.length:=by omega
    have e1:dl.toArray[t / 3]! =⟨_,Fv hR hg hi⟩:=by rw[getElem!_pos dl.toArray _ (by simp;omega)];have:=zd _ hi;obtain⟨h1,h2⟩:=zB.1 this;simpa using h2
    rw[e1];simp only[u0o];have hm:t % 3=0∨t % 3=1∨t % 3=2:=by omega
    rcases hm with h|h|h<;>rw[h]
    ·have:t / 3 * 3=t:=by omega
     simp[this]
    ·have:t / 3 * 3+1=t:=by omega
     simp[this]
    ·have:t / 3 * 3+2=t:=by omega
     simp[this]
   have zl:HoldsK u0o 3 w b 0 dl.toArray:=by unfold HoldsK;rw[zj];exact hH
   have zb:CmpLays Tryz.prog 187 #[] u0o 3 (d1p (T:=T) (w:=w) (I:=I)) b 0 dl.toArray.size w:=fun q os dk hs x y=>by
    have hW:∀c,I c→(sortWorldK u0o 3 w b 0 q dk os).heap[c]? =w.heap[c]? :=fun c ze=>by have zm:=hI c ze;have zn:b≠c:=fun e=>zg (e▸ze);simp only[sortWorldK,grow,putRowK,putRow,mapBlock,Sort.ahead];rw[Array.getElem?_append_left (by simpa using zm),Array.getElem?_modify,if_neg zn]
    have zf:∀z:MvE T w I,PVR w I (.agg (u0o z).toArray) (encMv z.1.2):=fun z=>by
     refine .agg _ _ (by simp[u0o,z.2.1]) fun i v x' hv z1=> ?_;obtain⟨v',h1,h2⟩:=z.2.2.2.2 i x' z1;have:v=v':=by simp only[u0o,List.getElem?_toArray]at hv;rw[hv]at h1;exact Option.some.inj h1
     rw[this];exact h2
    refine(j1s T hT x.1.2 y.1.2 x.2.2.2.1 y.2.2.2.1).laid hE hI hW (by simp) fun i v x' hv z1=> ?_
    match i,hv,z1 with
    |0,hv,z1=>simp at hv z1;subst hv z1;exact zf x
    |1,hv,z1=>simp at hv z1;subst hv z1;exact zf y
   have:=AnyQ.slices_SortFunc Tryz.sortMv 3 Tryz.isAgg78 Tryz.sizeOf78 u0o (fun x=>x.2.1) (fun x v hv=>x.2.2.1 v hv) d1p x2z 187 #[] b 0 cap dl.toArray w eg zb zl hb (by simp;omega);rw[show(dl.toArray).size=l.length by simp[z7]]at this;refine Calls.mono this ?_;rintro e w' ⟨rfl,d',n,os,h1,h2,rfl⟩;obtain⟨s1,_,s3⟩:=h1;have hs:d'.toList.length=l.length:=by simpa[z7]using s1
   refine⟨rfl,(d'.toList.map (fun x=>x.1.2)).map encMv,flatK u0o 3 d',n,os,⟨d'.toList.map (fun x=>x.1.2),?_,?_,rfl⟩,by simp[hs],⟨by simp,fun x hx=> ?_,fun i x hx j y hy=> ?_⟩,rfl⟩
   ·rw[show d'.extract 0 l.length=d' by simp[←hs],show dl.toArray.extract 0 l.length=dl.toArray by simp[←z7]]at s3;have:=(s3:d'.toList.Perm dl).map (fun x=>x.1.2)
    rwa [zi]at this
   ·refine wP.2 (yU.2 fun i j hi hj zo=> ?_);have:=h2 i j (xD _) zo (by omega);rw[ltE,getElem!_pos d' i (by simpa using hi),getElem!_pos d' j (by simpa using hj)]at this;simpa using this
   ·obtain⟨z,_,rfl⟩:=zT.1 hx;rfl
   ·rw[zY,zY]at hx;obtain⟨z0,zp,rfl⟩:=zV.1 hx;obtain⟨z,hz,rfl⟩:=zV.1 zp;obtain⟨hi,rfl⟩:=zB.1 hz;have hj:j<3:=(zB.1 hy).1;have zq:i<d'.size:=by simpa using hi
    rw[get_flatK _ _ _ _ (by omega)];rw[show(i * 3+j) / 3=i by omega,show(i * 3+j) % 3=j by omega];rw[getElem!_pos d' i zq];obtain⟨v,h1,h2⟩:=d'[i].2.2.2.2 j y (by simpa using hy);have:(u0o d'[i])[j]! =v:=by unfold u0o;rw[List.getElem!_eq_getElem?_getD,h1];rfl
    rw[this];exact h2
 ·rintro h;have z6:l=[]:=by
   cases l with
   |nil=>rfl
   |cons x r=>simp at h
  subst z6;exact⟨⟨[],.refl _,.nil,rfl⟩,fun w=>AnyF.slices_SortFunc_none Tryz.sortMv none 0 _ w⟩
 ·rintro r H' ⟨rfl,zc,⟨l',h1,h2,rfl⟩,rfl⟩;exact⟨rfl,l',h1,h2,rfl⟩
end Go.Abs
namespace Go.Abs
theorem q26{T B:Nat}{l:List Prd}(h:∀i,(Qw l i).length≤B):∀s∈U8 T l,s.length≤B:=fun s hs=>by unfold U8 at hs;obtain⟨i,_,rfl⟩:=zT.1 hs;exact yH (w0q _) (h i)
end Go.Abs
namespace Go.Abs
open Go Go.Proofs Go.Maps Go.RowKit
theorem w0h{l:List Nat}{i:Nat}(h:i<l.length):l.getD i 0=l[i]:=by simp[yX,h]
attribute [local irreducible] Q1 Eh Rt U8 y1r L0 K5 kvG
theorem Kt{α:Type}:∀(l:List α) (i:Nat) (x:α),l[i]? =some x→l.Perm (x::l.eraseIdx i)
 |[],i,x,h=>by simp at h
 |y::l,0,x,h=>by simp at h;subst h;simp
 |y::l,i+1,x,h=>by simp only[List.getElem?_cons_succ]at h;exact((Kt l i x h).cons y).trans (List.Perm.swap x y _)
theorem w0c{a:Aut}(ha:OkA a)(cl:List Nat)(s:Int)(t:Nat):(Pa a cl s t).length≤2048:=by unfold Pa;rw[yB];exact yH (wd _ _) (yH (Oo a s) ha.mvs)
theorem z18(ks:List Nat)(t:Nat):(Ji ks t).length≤ks.length+1:=by
 unfold Ji;split
 ·omega
 ·simp
theorem v1y(cl:List Nat):∀(l:List Mv) (ks:List Nat),(l.foldl (fun ks m=>Ji ks (clD cl m)) ks).length≤ks.length+l.length
 |[],ks=>by simp
 |m::l,ks=>by have h1:=v1y cl l (Ji ks (clD cl m));have h2:=z18 ks (clD cl m);simp only[xY,yS];omega
theorem Vw{a:Aut}(ha:OkA a)(cl:List Nat)(s:Int)(t i:Nat):(Qw (Pa a cl s t) i).length≤1000000:=by
 have h1:∀p∈Pa a cl s t,PCk a.types.toNat p:=fun p hp=>by obtain⟨m,hm,rfl⟩:=zT.1 hp;exact(ha.mv m (En.1 (xW.1 hm).1).1).on
 have h2:=w0c ha cl s t;have:=Uc h1 i;omega
theorem q1i{x y:Mv}(h:ltM y x=false)(z1:kyM x≠kyM y):ltG kyM x y:=by
 unfold ltG;have h1:¬Ib (kyM y).1 (kyM y).2 (kyM x).1 (kyM x).2:=fun k=>by have:ltM y x=true:=(Th _ _).2 k;rw[h]at this;cases this
 have h2:¬((kyM x).1=(kyM y).1∧(kyM x).2=(kyM y).2):=fun k=>z1 (uB k.1 k.2);unfold Ib at *;omega
theorem g0c(a:Aut)(ha:Dfa a)(cl:List Nat)(x6:cl.length=a.fin.length)(y3:∀c∈cl,c≤1000000)(s:Int)(hs:inS a s):PC Tryz.prog 138 [Ei a,LI (Ye cl),.i s] (fun r=>r= .list ((y1r a cl s).map encMv)):=by
 refine Qk tOk Tryz.func138 rfl Tryz.results138 rfl (by simp[Tryz.ntmps138]) ?_;rw[Tryz.ntmps138];simp only[Qg];simp only[Ei,Q6];have yi:=ha.ok.fin;have x7:=Oo a s;have x8:=ha.ok.mvs;have y4:=fun m (hm:m∈Q1 a s)=>ha.ok.mv m (En.1 hm).1;have zo:=A5 hs;have x9:=Ab hs;have yj:=hs.1;have yk:=hs.2;have yl:(Rt a).length=a.fin.length:=by unfold Rt;simp
 simp only[T0]at zo;have zu:∀hh,(Rt a)[s.toNat]'hh= .list ((Q1 a s).map encMv):=fun hh=>by rw[zK hh]at zo;exact Option.some.inj zo
 repeat first|(refine r_ ?_;simp)|refine q_ ?_
 refine Rn rfl rfl rfl ?_;simp;repeat first|(refine r_ ?_;simp[zo,zu,yj,yk,yl])|refine q_ ?_
 refine y15 1 rfl ?_;simp;obtain⟨K,hK⟩:∃K,K=[AObj.vars [.i a.types,.list (a.fin.map .bool),.list (a.mv.map encMv),.list (Rt a)]]:=⟨_,rfl⟩
 have ym:K[0]? =some (.vars [.i a.types,.list (a.fin.map .bool),.list (a.mv.map encMv),.list (Rt a)]):=by rw[hK];rfl
 refine Wb fun Z hZ=> ?_;have zG:MG K 1 (K5 a cl s 0) (L0 a cl s 0) (fun _=>0) Z:=by rw[c0q];refine⟨by rw[hZ];unfold kvG;rfl,by simp,by simp,by simp,by rw[hK];simp,by simp,fun j hj=> ?_⟩;rw[hK]at hj;simp at hj;subst hj;rw[hZ,hK];rfl
 clear hZ;refine Qo (Qc (sl':=[(1,LI (Ye cl)),(3,.vptr 0 0),(6,.nils),(7,.mref 1),(18,.list ((Q1 a s).map encMv)),(19,.i (Q1 a s).length),(20,.i (0:Nat))]) ?_ (by simp));refine Qn (P:=Tryz.prog) (F:=fun(u:Nat×(Nat→Nat)×List AObj)=>⟨[(1,LI (Ye cl)),(3,.vptr 0 0),(6,.nils),(7,.mref 1),(18,.list ((Q1 a s).map encMv)),(19,.i (Q1 a s).length),(20,.i u.1)],u.2.2⟩)
  (fun u=>u.1≤(Q1 a s).length∧MG K 1 (K5 a cl s u.1) (L0 a cl s u.1) u.2.1 u.2.2) (fun u=>(Q1 a s).length - u.1) ?_ (0,fun _=>0,Z) ⟨xD _,zG⟩
 clear zG;clear Z;rintro⟨j,L,G⟩ ⟨hj,gG⟩ ih;simp only at hj gG ih ⊢;have za:=j1y a cl s j;have zp:∀t∈K5 a cl s j,t≤1000000:=fun t ht=>by
  obtain⟨m,hm,rfl⟩:=L3.1 ht;unfold clD;have:=xS hm;by_cases h:m.dst.toNat<cl.length
  ·rw[w0h h];exact y3 _ (zL h)
  ·simp[yX,h]
 have yn:=fun t (h:t∉K5 a cl s j)=>x1w h;repeat first|(refine r_ ?_;simp)|refine q_ ?_
 refine Qa rfl (fun zv=> ?_) (fun yo=> ?_)
 ·have z7:j<(Q1 a s).length:=by simpa using zv
  have hw:IntKind.i64.wrap ((j:Int)+1)=j+1:=wrap_i64 _ (by omega) (by omega);have zh:=k0d a cl s z7;have zq:=f0g a cl s z7;have y5:=y4 _ (zL z7);have y6:∀t,(L0 a cl s j t).length≤j:=fun t=>by unfold L0;rw[yB];refine yH (wd _ _) ?_;rw[wn];omega
  have zf:=fun L' G'=>ih (j+1,L',G');simp only[zh,zq]at zf;clear zh zq;have y7:((Q1 a s).map encMv)[j]? =some (encMv (Q1 a s)[j]):=by simp[z7]
  have y8:∀hh,((Q1 a s).map encMv)[j]'hh=encMv (Q1 a s)[j]:=fun hh=>by simp
  generalize (Q1 a s)[j]=m at *;generalize K5 a cl s j=ks at *;generalize L0 a cl s j=gs at *;simp only[encMv]at y7 y8
  repeat first|(refine r_ ?_;simp[y7,y8,z7])|refine q_ ?_
  obtain⟨d,hd⟩:∃d:Nat,m.dst=d:=⟨m.dst.toNat,by have:=y5.dst.1;omega⟩
  have z8:d<cl.length:=by have:=y5.dst.2;omega
  have zw:clD cl m=cl[d]:=by unfold clD;rw[hd];exact w0h z8
  have zr:clD cl m≤1000000:=by rw[zw];exact y3 _ (zL z8)
  have yp:(Ye cl)[d]? =some ((clD cl m:Nat):Int):=by rw[zw];simp[z8]
  have yq:∀hh,(Ye cl)[d]'hh=((clD cl m:Nat):Int):=fun hh=>(yQ hh).2 yp;rw[hd]at *;refine Wb fun Y hY=> ?_
  have yG:MG K 1 ks gs L Y:=by rw[hY];exact gG.grow _
  have yx:Y[G.length]? =some (.vars [.i m.src,.i d,.list (m.on.map encL)]):=by rw[hY,zH (by simp)];simp
  clear hY gG;generalize G.length=x at *;clear G
  have xa:=y6 (clD cl m);have zx:=yn (clD cl m);have yM:=yG.map;have zi:=fun np H'=>yG.put (t:=clD cl m) (p:=m.on) (np:=np) (H':=H');have yr:=yG.leaf (clD cl m);have zy:=yG.ne (clD cl m);generalize clD cl m=t at *
  have zb:cl[d]=t:=zw.symm;have zc:∀E,(Y++E)[x]? =some (.vars [.i m.src,.i d,.list (m.on.map encL)]):=fun E=>Qb yx E;have zd:∀E hh,(Y++E)[x]'hh= .vars [.i m.src,.i d,.list (m.on.map encL)]:=fun E hh=>(yQ hh).2 (zc E);by_cases htk:t∈ks
  ·have ze:=yr htk;have y9:=zy htk;have yt:L t≠x:=fun e=>by rw[e,yx]at ze;simp at ze
   have ya:=Qh ze;have z6:((gs t).map encP).length=(gs t).length:=by simp
   generalize yu:(gs t).map encP=ge at *
   have zt:∀E,(Y.set (L t) .dead++E)[x]? =some (.vars [.i m.src,.i d,.list (m.on.map encL)]):=fun E=>Qb (Qd yt yx _) E;have zz:∀E hh,(Y.set (L t) .dead++E)[x]'hh= .vars [.i m.src,.i d,.list (m.on.map encL)]:=fun E hh=>(yQ hh).2 (zt E);refine Yx (P:=Tryz.prog) tOk mixed [16,17] (.val 0 (.val 1 (.val 2 (.val 6 (.val 7 (.val 8 (.val 9 (.val 10 (.val 11 (.val 13 (.val 14 (.three 3 (.val 4 (.three 5 (.two 12 (.one 15 (.one 16 (.one 17 (.done)))) 15 (.one 12 (.one 16 (.one 17 (.done))))) 12 (.two 5 (.one 15 (.one 16 (.one 17 (.done)))) 15 (.two 5 (.one 16 (.one 17 (.done))) 16 (.val 5 (.one 17 (.done))))) 15 (.two 5 (.one 12 (.one 16 (.one 17 (.done)))) 12 (.two 5 (.one 16 (.one 17 (.done))) 16 (.val 5 (.one 17 (.done))))))) 12 (.two 3 (.val 4 (.two 5 (.one 15 (.one 16 (.one 17 (.done)))) 15 (.two 5 (.one 16 (.one 17 (.done))) 16 (.val 5 (.one 17 (.done)))))) 15 (.two 3 (.val 4 (.two 5 (.one 16 (.one 17 (.done))) 16 (.val 5 (.one 17 (.done))))) 16 (.val 3 (.val 4 (.val 5 (.one 17 (.done))))))) 15 (.two 3 (.val 4 (.two 5 (.one 12 (.one 16 (.one 17 (.done)))) 12 (.two 5 (.one 16 (.one 17 (.done))) 16 (.val 5 (.one 17 (.done)))))) 12 (.two 3 (.val 4 (.two 5 (.one 16 (.one 17 (.done))) 16 (.val 5 (.one 17 (.done))))) 16 (.val 3 (.val 4 (.val 5 (.one 17 (.done))))))))))))))))))) (fun S'=>∃np,MG K 1 (Ji ks t) (fun u=>if u=t then gs t++[m.on]else gs u) (fun u=>if u=t then np else L u) S'.hp∧look S'.sl 1=some (LI (Ye cl))∧look S'.sl 3=some (.vptr 0 0)∧look S'.sl 6=some .nils∧look S'.sl 7=some (.mref 1)∧look S'.sl 18=some (.list ((Q1 a s).map encMv))∧look S'.sl 19=some (.i (Q1 a s).length)∧look S'.sl 20=some (.i j)) rfl (by kernel_rfl) ?_ ?_
   ·simp[yx,zc,zd,zb,z8]
    repeat' (first
     |refine And.intro ?_ ?_
     |(refine Hn rfl rfl rfl rfl rfl (by first|exact yM|exact Qb yM _) zp zr ?_;rw[if_pos htk];simp[yx,zc,zd,zb,z8])
     |(refine Qf tOk rfl rfl T91 rfl T76 rfl (by decide) (by decide) rfl rfl rfl ?_;simp[Qb ze,Qj ze,z6,yx,zc,zd,zt,zz,zb,z8];refine⟨by simp[Wi,z6]<;>omega,?_⟩;simp[zt,zz,zb,z8])
     |(refine Qf tOk rfl rfl T91 rfl T76 rfl (by decide) (by decide) rfl rfl rfl ?_;simp[Qb ze,Qj ze,z6,yx,zc,zd,zt,zz,zb,z8];refine⟨by simp[Wi,z6]<;>omega,?_⟩))
    all_goals
     refine Kc rfl rfl rfl rfl rfl (np:=Y.length+1) (n:=(gs t).length+1) rfl (ks:=ks) (gs:=gs) (L:=L) (Qb (Qd y9 yM _) _) zp zr za zx m.on rfl ?_;simp;refine⟨Y.length+1,zi (Y.length+1) _ (by omega) (Qi (Qb (Qd y9 yM _) _) _) ?_ ?_⟩
     ·rw[zE (by have:=Qh yM;omega),zH (by simp),yP,yu];simp
     ·intro jj h1 h2 h3;rw[zE (Ne.symm h2),zF (by simpa using h1),zE (fun e=>h3 htk e.symm)]
   ·rintro⟨sl,E⟩ ⟨np,hE,s1,s3,s6,s7,s18,s19,s20⟩;simp only at hE s1 s3 s6 s7 s18 s19 s20;simp;refine Qz (sl':=[(1,LI (Ye cl)),(3,.vptr 0 0),(6,.nils),(7,.mref 1),(18,.list ((Q1 a s).map encMv)),(19,.i (Q1 a s).length),(20,.i j)]) ?_ (by simp[s1,s3,s6,s7,s18,s19,s20]);repeat first|(refine r_ ?_;simp[hw])|refine q_ ?_
    refine Qc (sl':=[(1,LI (Ye cl)),(3,.vptr 0 0),(6,.nils),(7,.mref 1),(18,.list ((Q1 a s).map encMv)),(19,.i (Q1 a s).length),(20,.i (j+1:Nat))]) ?_ (by simp);exact zf _ E ⟨by omega,hE⟩ (by omega)
  ·have yb:=zx htk;have z6:(gs t).length=0:=by rw[yb];rfl
   refine Yx (P:=Tryz.prog) tOk mixed [16,17] (.val 0 (.val 1 (.val 2 (.val 6 (.val 7 (.val 8 (.val 9 (.val 10 (.val 11 (.val 13 (.val 14 (.three 3 (.val 4 (.three 5 (.two 12 (.one 15 (.one 16 (.one 17 (.done)))) 15 (.one 12 (.one 16 (.one 17 (.done))))) 12 (.two 5 (.one 15 (.one 16 (.one 17 (.done)))) 15 (.two 5 (.one 16 (.one 17 (.done))) 16 (.val 5 (.one 17 (.done))))) 15 (.two 5 (.one 12 (.one 16 (.one 17 (.done)))) 12 (.two 5 (.one 16 (.one 17 (.done))) 16 (.val 5 (.one 17 (.done))))))) 12 (.two 3 (.val 4 (.two 5 (.one 15 (.one 16 (.one 17 (.done)))) 15 (.two 5 (.one 16 (.one 17 (.done))) 16 (.val 5 (.one 17 (.done)))))) 15 (.two 3 (.val 4 (.two 5 (.one 16 (.one 17 (.done))) 16 (.val 5 (.one 17 (.done))))) 16 (.val 3 (.val 4 (.val 5 (.one 17 (.done))))))) 15 (.two 3 (.val 4 (.two 5 (.one 12 (.one 16 (.one 17 (.done)))) 12 (.two 5 (.one 16 (.one 17 (.done))) 16 (.val 5 (.one 17 (.done)))))) 12 (.two 3 (.val 4 (.two 5 (.one 16 (.one 17 (.done))) 16 (.val 5 (.one 17 (.done))))) 16 (.val 3 (.val 4 (.val 5 (.one 17 (.done))))))))))))))))))) (fun S'=>∃np,MG K 1 (Ji ks t) (fun u=>if u=t then gs t++[m.on]else gs u) (fun u=>if u=t then np else L u) S'.hp∧look S'.sl 1=some (LI (Ye cl))∧look S'.sl 3=some (.vptr 0 0)∧look S'.sl 6=some .nils∧look S'.sl 7=some (.mref 1)∧look S'.sl 18=some (.list ((Q1 a s).map encMv))∧look S'.sl 19=some (.i (Q1 a s).length)∧look S'.sl 20=some (.i j)) rfl (by kernel_rfl) ?_ ?_
   ·simp[yx,zc,zd,zb,z8]
    repeat' (first
     |refine And.intro ?_ ?_
     |(refine Hn rfl rfl rfl rfl rfl (by first|exact yM|exact Qb yM _) zp zr ?_;rw[if_neg htk];simp[yx,zc,zd,zb,z8])
     |(refine Qf tOk rfl rfl T91 rfl T76 rfl (by decide) (by decide) rfl rfl rfl ?_;simp[yx,zc,zd,zb,z8];refine⟨by simp[Wi]<;>omega,?_⟩))
    all_goals
     refine Kc rfl rfl rfl rfl rfl (np:=Y.length+1) (n:=1) rfl (ks:=ks) (gs:=gs) (L:=L) (Qb yM _) zp zr za zx m.on (by rw[z6]) ?_;simp;refine⟨Y.length+1,zi (Y.length+1) _ (by omega) (Qi (Qb yM _) _) ?_ ?_⟩
     ·rw[zE (by have:=Qh yM;omega),zH (by simp),yP,yb];simp
     ·intro jj h1 h2 h3;rw[zE (Ne.symm h2),zF h1]
   ·rintro⟨sl,E⟩ ⟨np,hE,s1,s3,s6,s7,s18,s19,s20⟩;simp only at hE s1 s3 s6 s7 s18 s19 s20;simp;refine Qz (sl':=[(1,LI (Ye cl)),(3,.vptr 0 0),(6,.nils),(7,.mref 1),(18,.list ((Q1 a s).map encMv)),(19,.i (Q1 a s).length),(20,.i j)]) ?_ (by simp[s1,s3,s6,s7,s18,s19,s20]);repeat first|(refine r_ ?_;simp[hw])|refine q_ ?_
    refine Qc (sl':=[(1,LI (Ye cl)),(3,.vptr 0 0),(6,.nils),(7,.mref 1),(18,.list ((Q1 a s).map encMv)),(19,.i (Q1 a s).length),(20,.i (j+1:Nat))]) ?_ (by simp);exact zf _ E ⟨by omega,hE⟩ (by omega)
 ·have y0:j=(Q1 a s).length:=by simp at yo;omega
  subst y0;have y6:∀t,(L0 a cl s (Q1 a s).length t).length≤2048:=fun t=>by unfold L0;rw[yB];refine yH (wd _ _) ?_;rw[wn];omega
  refine Qz (sl':=[(3,.vptr 0 0),(6,.nils),(7,.mref 1)]) ?_ (by simp);refine MG.freeze za gG.inj gG.ne (fun t ht=>by simp[AV.fz]) (K5 a cl s (Q1 a s).length).length 0 G (by omega) (by rw[x19];exact gG.map) (fun i t _ ht=>gG.leaf t (zJ ht)) fun H' y1 yc yd=> ?_;have g0:H'[0]? =some (.vars [.i a.types,.list (a.fin.map .bool),.list (a.mv.map encMv),.list (Rt a)]):=by rw[yd 0 (by have:=Qh gG.map;omega) (by decide) (fun t ht e=>by have:=gG.geL t ht;rw[hK]at this;simp at this;omega),gG.keep 0 (by rw[hK];simp)];exact ym
  rw[k1a]at y1;clear yd gG ih;refine x1m 1 y1 (by simp[AV.pure]) ?_;have z1:=Qi y1 (.mp ((K5 a cl s (Q1 a s).length).map fun t:Nat=>(AV.i t,AV.list ((L0 a cl s (Q1 a s).length t).map encP))));have z0:=Qd (j:=1) (by decide) g0 (.mp ((K5 a cl s (Q1 a s).length).map fun t:Nat=>(AV.i t,AV.list ((L0 a cl s (Q1 a s).length t).map encP))));generalize H'.set 1 _=Z at *
  repeat first|(refine r_ ?_;simp)|refine q_ ?_
  refine B3 tOk rfl rfl rfl z2d rfl rfl z1 ?_;simp;repeat first|(refine r_ ?_;simp)|refine q_ ?_
  have zq:L0 a cl s (Q1 a s).length=Pa a cl s:=funext fun t=>x1v a cl s t;rw[zq]at *;generalize zh:K5 a cl s (Q1 a s).length=ks at *;refine Qz (sl':=[(3,.vptr 0 0),(6,.nils),(10,.nils),(43,.vptr Z.length 0)]) ?_ (by simp)
  refine Q8 10 78 3 rfl ?_;simp;have xb:=Qh z1;refine Wb fun E hE=> ?_;have e0:E[0]? =some (.vars [.i a.types,.list (a.fin.map .bool),.list (a.mv.map encMv),.list (Rt a)]):=by rw[hE];exact Qb (Qd (j:=1) (by decide) z0 _) _
  have ei:E[Z.length]? =some (.it (ks.map fun t:Nat=>(.i t,.list ((Pa a cl s t).map encP))) none):=by rw[hE,zH (by simp)];simp
  have eq:E[Z.length+1]? =some (.arr 78 3 []):=by rw[hE,zH (by simp)];simp
  clear hE;generalize Z.length=I at *;clear z0 z1;clear Z
  have hT:=ha.ok.types;have yv:((a.types.toNat:Nat):Int)=a.types:=by omega
  have ye:∀t,∀p∈Pa a cl s t,PWf a.types.toNat p:=fun t p hp=>by obtain⟨m,hm,rfl⟩:=zT.1 hp;exact(Na ha.ok (xW.1 hm).1).1
  have yf:∀t,(Pa a cl s t).length≤1000000:=fun t=>yH (w0c ha.ok cl s t) (by decide);have hU:∀t,PC Tryz.prog 161 [.i a.types,LP (Pa a cl s t)] (fun r=>r=encP (U8 a.types.toNat (Pa a cl s t))):=fun t=>by
   have:=d08 a.types.toNat (Pa a cl s t) (by omega) (ye t) (fun i _=>Vw ha.ok cl s t i) (yf t)
   rwa [yv]at this
  have yw:ks.length≤2048:=by rw[←zh];unfold K5;rw[yW];have:=v1y cl (Q1 a s) [];simp only[List.length_nil]at this;omega
  have yy:∀t,∀r∈U8 a.types.toNat (Pa a cl s t),r.length≤1000000000:=fun t r hr=>by have:=q26 (fun i=>Vw ha.ok cl s t i) r hr;omega
  clear ye yf;refine Qo (Qc (sl':=[(3,.vptr 0 0),(6,.nils),(10,.sl (I+1) 3 0 ([]:List Nat).length),(43,.vptr I 0)]) ?_ (by simp));refine Qn (P:=Tryz.prog) (F:=fun(u:List Nat×Option (AV×AV)×List Nat×Nat×List AObj)=>⟨[(3,.vptr 0 0),(6,.nils),(10,.sl u.2.2.2.1 3 0 u.2.2.1.length),(43,.vptr I 0)],u.2.2.2.2⟩)
   (fun u=>I<u.2.2.2.1∧(u.2.2.1++u.1).Perm ks∧u.2.2.2.2[0]? =some (.vars [.i a.types,.list (a.fin.map .bool),.list (a.mv.map encMv),.list (Rt a)])∧u.2.2.2.2[I]? =some (.it (u.1.map fun t:Nat=>(.i t,.list ((Pa a cl s t).map encP))) u.2.1)∧u.2.2.2.2[u.2.2.2.1]? =some (.arr 78 3 (u.2.2.1.map fun t:Nat=>encMv ⟨0,t,U8 a.types.toNat (Pa a cl s t)⟩))) (fun u=>u.1.length) ?_ (ks,none,[],I+1,E) ⟨by simp only;omega,by simp,e0,ei,eq⟩
  clear e0 ei eq;clear E;rintro⟨left,cur,ds,q,E⟩ ⟨yz,zg,e0,ei,eq⟩ ih;simp only at yz zg e0 ei eq ih ⊢;repeat first|(refine r_ ?_;simp)|refine q_ ?_
  refine y0f rfl rfl rfl rfl ei (fun x0=> ?_) (fun i p hp=> ?_)
  ·simp;have x1:left=[]:=by simpa using x0
   subst x1;rw[xB]at zg;have xc:ds.length≤2048:=by rw[zg.length_eq];exact yw
   repeat first|(refine r_ ?_;simp)|refine q_ ?_
   refine Ql rfl ?_;simp;repeat first|(refine r_ ?_;simp)|refine q_ ?_
   have x2:(ds.map fun t:Nat=>encMv ⟨0,t,U8 a.types.toNat (Pa a cl s t)⟩)=(ds.map fun t:Nat=>(⟨0,(t:Int),U8 a.types.toNat (Pa a cl s t)⟩:Mv)).map encMv:=by rw[vF];rfl
   rw[x2]at eq;have zj:=j0o ha cl s (ks:=ds) (zg.symm.nodup za) (fun t=>by
    rw[zg.mem_iff,←zh,L3,yW])
   have yg:∀m∈(ds.map fun t:Nat=>(⟨0,(t:Int),U8 a.types.toNat (Pa a cl s t)⟩:Mv)),gdM a.types.toNat m:=fun m hm=>by refine⟨zj.wf m hm,(Yp (zj.wf m hm)).2 (zj.ne m hm),fun t ht=> ?_⟩;obtain⟨u,_,rfl⟩:=zT.1 hm;exact yy u t ht
   obtain⟨L,hL⟩:∃L,L=(ds.map fun t:Nat=>(⟨0,(t:Int),U8 a.types.toNat (Pa a cl s t)⟩:Mv)):=⟨_,rfl⟩
   have x3:ds.length=L.length:=by rw[hL];simp
   rw[←hL]at eq zj yg;have x4:L.length≤1000000:=by omega
   rw[x3];refine Q7 rfl rfl (c0r a.types.toNat (by omega) E q L eq x4 yg) rfl ?_;rintro r H' ⟨rfl,l',h1,h2,rfl⟩;simp;have yh:=Hd ha cl hs;have zk:=zj.perm h1.symm;have zv:l'.Pairwise (ltG kyM):=by have x5:=zk.apart fun t t' ty y=>Nr ha hs;refine(h2.and x5).imp fun {x y} h=> ?_;obtain⟨e1,e2⟩:=h;exact q1i e1 e2
   have zl:l'=y1r a cl s:=zk.uniq yh.1 zv yh.2;have ya:=h1.length_eq;rw[←ya];refine Qz (sl':=[(6,.nils),(10,.sl q 3 0 l'.length)]) ?_ (by simp);refine Wp q (Qi eq _) ?_;simp[AV.fz];rw[zR (by simp),zl];repeat first|(refine r_ ?_;simp)|refine q_ ?_
  ·simp;rw[zY]at hp;obtain⟨t,ht,rfl⟩:=zV.1 hp;rw[j0v];have zm:(ds++[t]++left.eraseIdx i).Perm ks:=by refine List.Perm.trans ?_ zg;rw[xT];exact List.Perm.append_left ds (Kt left i t ht).symm
   have xd:(left.eraseIdx i).length<left.length:=by rw[List.length_eraseIdx,if_pos (Ex ht)];have:=Ex ht;omega
   have xe:ds.length+1≤2048:=by have:=zm.length_eq;simp at this;omega
   have xf:=Qh ei;have zf:=fun y2 q' E'=>ih (left.eraseIdx i,y2,ds++[t],q',E');simp only[zZ,List.length_singleton,yP,yZ,wG]at zf;generalize left.eraseIdx i=left' at *
   have k0:=Qd (j:=I) (by intro e;rw[e,e0]at ei;simp at ei) e0 (.it (left'.map fun t:Nat=>(AV.i t,AV.list ((Pa a cl s t).map encP))) (some (AV.i t,AV.list ((Pa a cl s t).map encP))));have ki:=Qi ei (.it (left'.map fun t:Nat=>(AV.i t,AV.list ((Pa a cl s t).map encP))) (some (AV.i t,AV.list ((Pa a cl s t).map encP))));have kq:=Qd (j:=I) (by omega) eq (.it (left'.map fun t:Nat=>(AV.i t,AV.list ((Pa a cl s t).map encP))) (some (AV.i t,AV.list ((Pa a cl s t).map encP))));generalize E.set I (.it (left'.map fun t:Nat=>(AV.i t,AV.list ((Pa a cl s t).map encP))) (some (AV.i t,AV.list ((Pa a cl s t).map encP))))=E1 at *
   clear e0 ei eq;repeat first|(refine r_ ?_;simp)|refine q_ ?_
   refine Ql rfl ?_;simp;repeat first|(refine r_ ?_;simp)|refine q_ ?_
   refine Np rfl rfl rfl rfl ki ?_;simp;have zn:(ds.map fun t:Nat=>encMv ⟨0,t,U8 a.types.toNat (Pa a cl s t)⟩).length=ds.length:=by simp
   generalize y4:(ds.map fun t:Nat=>encMv ⟨0,t,U8 a.types.toNat (Pa a cl s t)⟩)=mm at *
   repeat first|(refine r_ ?_;simp[k0])|refine q_ ?_
   refine Qe rfl rfl (by simp) (hU t) rfl ?_;rintro _ rfl;simp;refine Qf tOk rfl rfl T23 rfl T78 rfl (by decide) (by decide) rfl rfl rfl ?_;simp[Qb kq,Qj kq,kq,zn];refine⟨by simp[Wi,Qb kq,Qj kq,kq,zn]<;>omega,?_⟩;repeat first|(refine r_ ?_;simp)|refine q_ ?_
   refine Qc (sl':=[(3,.vptr 0 0),(6,.nils),(10,.sl (E1.length+1) 3 0 (ds.length+1)),(43,.vptr I 0)]) ?_ (by simp);have xg:=Qh kq;refine zf _ (E1.length+1) _ ⟨by omega,by simpa using zm,Qb (Qd (j:=q) (by omega) k0 _) _,Qb (Qd (j:=q) (by omega) ki _) _,?_⟩ (by omega);rw[zH (by simp)];simp
end Go.Abs
namespace Go.Abs
open Go Go.Proofs
theorem Xi{a:Aut}(ha:Dfa a):(clA a).length=a.fin.length:=(q2g ha).len
theorem q2s{a:Aut}(ha:Dfa a):∀c∈clA a,c≤1000000:=fun c hc=>by obtain⟨j,hj⟩:=yJ.1 hc;obtain⟨z1,rfl⟩:=zB.1 hj;have:=(q2g ha).lt_fs (by rw[Xi ha]at z1;exact z1);have h2:=c0f ha;have h3:=ha.ok.fin;simp only[yX,zK z1,Option.getD_some]at this;have h4:(P7 (eqS a) a.fin.length).1.length≤a.fin.length:=h2;unfold clA at *;omega
theorem k0p{l:List Nat}{i:Nat}(h:i<l.length):l.getD i 0∈l:=by rw[yX,zK h];exact zL h
theorem j1k{a:Aut}(ha:Dfa a){c:Nat}(hc:Lq a c):c∈clA a:=by
 obtain⟨h1,h2⟩:=Aj ha hc;have hl:Ii a c<(clA a).length:=by rw[Xi ha];exact h1
 have e:Yk a (Ii a c)=(clA a).getD (Ii a c) 0:=rfl;rw[←h2,e];exact k0p hl
theorem g1g{a:Aut}(ha:Dfa a){c:Nat}(hc:Lq a c):Js (fun y:Int=>((c:Nat):Int)==y) (Ye (clA a))=(Ii a c:Nat):=by
 have e:(fun y:Int=>((c:Nat):Int)==y)=fun y:Int=>y==((c:Nat):Int):=by funext y;rw[wt,beq_iff_eq,beq_iff_eq];exact eq_comm
 rw[e,z1v (j1k ha hc)];rfl
theorem z1w{a:Aut}(ha:Dfa a):(clA a)[0]? =some (Yk a 0):=by
 have z1:0<(clA a).length:=by rw[Xi ha];have:=ha.zero.2;omega
 have:Yk a 0=(clA a).getD 0 0:=by unfold Yk;rfl
 rw[this,yX,zK z1];rfl
theorem d0e{a:Aut}(ha:Dfa a){c:Nat}(hc:Lq a c):c≤1000000:=by have h3:=c0f ha;have h4:=ha.ok.fin;unfold Lq at hc;omega
end Go.Abs
namespace Go.Abs
open Go Go.Proofs Go.Maps Go.RowKit
abbrev q1t (a:Aut):AObj:= .vars [.i a.types,.list (a.fin.map .bool),.list (a.mv.map encMv),.list (Rt a)]
theorem k0c(a:Aut)(c:Nat):y1r a (clA a) (Ii a c:Nat)=Pn a c:=rfl
theorem x0l{l:List Bool}{i:Nat}(h:i<l.length):l[i]? =some (l.getD i false):=by simp[yX,h]
attribute [local irreducible] clA Ii Pn Wq Fs Xm qMv qM qF E2 mpO Yk y1r Rt Lq
theorem M3(a:Aut)(ha:Dfa a):PC Tryz.prog 80 [Ei a] (fun r=>r=encA (E2 a)):=by
 refine Qk tOk Tryz.func80 rfl Tryz.results80 rfl (by simp[Tryz.ntmps80]) ?_;rw[Tryz.ntmps80];simp only[Qg];simp only[Ei,Q6];have xh:=ha.ok.fin;have hlen:=Xi ha;have hle:=q2s ha;have y3:0<(clA a).length:=by rw[hlen];have:=ha.zero.2;omega
 have xi:=z1w ha;have xj:Yk a 0≤1000000:=d0e ha (q0m ha ha.zero);repeat first|(refine r_ ?_;simp)|refine q_ ?_
 have cG:=Gq a ha;have cM:=fun(s:Int) (hs:inS a s)=>g0c a ha (clA a) hlen hle s hs;have xk:=fun(c:Nat) (hc:Lq a c)=>g1g ha hc;have y4:(Ye (clA a))[0]? =some ((Yk a 0:Nat):Int):=by simp[xi]
 have yw:0<(Ye (clA a)).length:=by simp[y3]
 generalize Ye (clA a)=CL at *
 have zk:∀hh,CL[0]'hh=((Yk a 0:Nat):Int):=fun hh=>(yQ hh).2 y4;simp only[Ei,Q6]at cG cM;refine Qe rfl rfl (by simp) (cG) rfl ?_;rintro _ rfl;simp;repeat first|(refine r_ ?_;simp)|refine q_ ?_
 refine Rn rfl rfl rfl ?_;simp[yw,y4,zk];refine v04 rfl rfl rfl rfl (c:=Yk a 0) rfl rfl rfl xj ?_;simp;repeat first|(refine r_ ?_;simp[yw,y4,zk])|refine q_ ?_
 refine Qz (sl':=[(1,.vptr 0 0),(2,.vptr 1 0),(3,LI CL),(4,.mref 2),(5,.sl 3 1 0 1),(6,.vptr 4 0),(7,.i (0:Nat))]) ?_ (by simp);refine Eg 4 1 4 1 rfl rfl ?_;refine Wb fun Z1 z8=> ?_;have z1l:Z1.length=6:=by rw[z8];simp
 have z1c:Z1[4]? =some (.vars [.i a.types,.sl 5 1 0 0,.nils]):=by rw[z8];rfl
 have z1f:Z1[5]? =some (.arr 4 1 []):=by rw[z8];rfl
 have z1o:Z1[3]? =some (.arr 3 1 [.i (Yk a 0:Nat)]):=by rw[z8];rfl
 have z1m:Z1[2]? =some (mpO [Yk a 0]):=by rw[z8];rfl
 have z10:Z1[0]? =some (q1t a):=by rw[z8];rfl
 have z11:Z1[1]? =some (.vars [.i 0,.nils,.nils]):=by rw[z8];rfl
 clear z8;refine Eg 4 2 78 3 z1c rfl ?_;refine Wb fun Z2 za=> ?_;have z2c:Z2[4]? =some (.vars [.i a.types,.sl 5 1 0 0,.sl 6 3 0 0]):=by rw[za,zO (by simp;omega)];simp[z1l]
 have z2f:Z2[5]? =some (.arr 4 1 []):=by rw[za,zE (by omega),zF (by omega)];exact z1f
 have z2v:Z2[6]? =some (.arr 78 3 []):=by rw[za,zE (by omega),zH (by omega)];simp[z1l]
 have z2o:Z2[3]? =some (.arr 3 1 [.i (Yk a 0:Nat)]):=by rw[za,zE (by omega),zF (by omega)];exact z1o
 have z2m:Z2[2]? =some (mpO [Yk a 0]):=by rw[za,zE (by omega),zF (by omega)];exact z1m
 have z20:Z2[0]? =some (q1t a):=by rw[za,zE (by omega),zF (by omega)];exact z10
 have z21:Z2[1]? =some (.vars [.i 0,.nils,.nils]):=by rw[za,zE (by omega),zF (by omega)];exact z11
 clear za z1l z1c z1f z10 z11 z1o z1m;clear Z1;refine Qo (Qc (sl':=[(1,.vptr 0 0),(2,.vptr 1 0),(3,LI CL),(4,.mref 2),(5,.sl 3 1 0 [Yk a 0].length),(6,.vptr 4 0),(7,.i (0:Nat))]) ?_ (by simp));refine Qn (P:=Tryz.prog) (F:=fun(u:Nat×List Nat×Nat×Nat×Nat×List AObj)=>⟨[(1,.vptr 0 0),(2,.vptr 1 0),(3,LI CL),(4,.mref 2),(5,.sl u.2.2.1 1 0 u.2.1.length),(6,.vptr 4 0),(7,.i u.1)],u.2.2.2.2.2⟩)
  (fun u=>QI a u.1 u.2.1∧u.2.2.2.2.2[0]? =some (q1t a)∧u.2.2.2.2.2[1]? =some (.vars [.i 0,.nils,.nils])∧u.2.2.2.2.2[2]? =some (mpO u.2.1)∧u.2.2.2.2.2[4]? =some (.vars [.i a.types,.sl u.2.2.2.1 1 0 u.1,.sl u.2.2.2.2.1 3 0 (qM a u.1 u.2.1).length])∧u.2.2.2.2.2[u.2.2.1]? =some (.arr 3 1 ((Ye u.2.1).map .i))∧u.2.2.2.2.2[u.2.2.2.1]? =some (.arr 4 1 ((qF a (u.2.1.take u.1)).map .bool))∧u.2.2.2.2.2[u.2.2.2.2.1]? =some (.arr 78 3 ((qM a u.1 u.2.1).map encMv)))
  (fun u=>a.fin.length+1 - u.1) ?_ (0,[Yk a 0],3,5,6,Z2) ⟨QI.zero ha,z20,z21,z2m,by rw[k0b];exact z2c,z2o,by simpa[d1n]using z2f,by rw[k0b];exact z2v⟩
 clear z20 z21 z2c z2f z2v z2o z2m;clear Z2;rintro⟨n,O,o,f,v,G⟩ ⟨hQ,g0,g1,gm,gc,go,gf,gv⟩ ih;simp only at hQ g0 g1 gm gc go gf gv ih ⊢;have w8:=hQ.len ha;have yy:=hQ.cl;repeat first|(refine r_ ?_;simp)|refine q_ ?_
 refine Qa rfl (fun xl=> ?_) (fun xn=> ?_)
 ·have zd:n<O.length:=by simpa using xl
  have hw:IntKind.i64.wrap ((n:Int)+1)=n+1:=wrap_i64 _ (by omega) (by omega);have y5:O[n]? =some O[n]:=zK zd;have zl:=yy _ (zL zd);have yz:=hQ.step ha y5;have x3:=k1u hQ y5;have x4:=k10 a (Pn a O[n]) y5;have xp:=d1d ha hQ;have zx:=fun o' f' v' G'=>ih (n+1,Wq O (Pn a O[n]),o',f',v',G');simp only[x3,x4]at zx;clear x3 x4 ih;have xq:((Ye O).map AV.i).length=O.length:=by simp
  have x5:=(Aj ha zl).1;have xr:=q0u ha zl;have xt:=xk _ zl;have xu:=k0c a O[n];have xw:=Zu ha zl;have x6:∀m∈Pn a O[n],∃d:Nat,m.dst=d∧d≤1000000:=fun m hm=>by obtain⟨x,_,e,_,e2,_⟩:=Xa ha zl hm;exact⟨_,e,d0e ha e2⟩
  generalize xy:O[n]=c at *
  have x7:=x0l x5;have xz:∀hh,a.fin[Ii a c]'hh=a.fin.getD (Ii a c) false:=fun hh=>(yQ hh).2 x7;generalize a.fin.getD (Ii a c) false=b at *
  have w9:(Q1 a (Ii a c:Nat)).length≤a.mv.length:=wd _ _;have wa:=ha.ok.mvs;have y6:o≠f:=fun e=>by rw[e,gf]at go;simp at go
  have y7:o≠v:=fun e=>by rw[e,gv]at go;simp at go
  have ze:f≠v:=fun e=>by rw[e,gv]at gf;simp at gf
  have zy:o≠4:=fun e=>by rw[e,gc]at go;simp at go
  have zj:f≠4:=fun e=>by rw[e,gc]at gf;simp at gf
  have zn:v≠4:=fun e=>by rw[e,gc]at gv;simp at gv
  have x8:o≠0:=fun e=>by rw[e,g0]at go;simp at go
  have w2:f≠0:=fun e=>by rw[e,g0]at gf;simp at gf
  have y8:v≠0:=fun e=>by rw[e,g0]at gv;simp at gv
  have x9:o≠1:=fun e=>by rw[e,g1]at go;simp at go
  have y9:f≠1:=fun e=>by rw[e,g1]at gf;simp at gf
  have zp:v≠1:=fun e=>by rw[e,g1]at gv;simp at gv
  have ya:o≠2:=fun e=>by rw[e,gm]at go;unfold mpO at go;simp at go
  have yb:f≠2:=fun e=>by rw[e,gm]at gf;unfold mpO at gf;simp at gf
  have zz:v≠2:=fun e=>by rw[e,gm]at gv;unfold mpO at gv;simp at gv
  repeat first|(refine r_ ?_;simp[go,xq,zd,xy])|refine q_ ?_
  refine Qe rfl rfl (by simp) (w0m CL c) rfl ?_;rintro _ rfl;simp;rw[xt];repeat first|(refine r_ ?_;simp)|refine q_ ?_
  have zq:((qF a (O.take n)).map AV.bool).length=n:=by simp[u1s];omega
  generalize wb:(qF a (O.take n))=fs at *;refine Qm tOk mixed [9,11] (.val 0 (.val 1 (.val 2 (.val 3 (.val 4 (.val 5 (.val 6 (.val 7 (.one 8 (.one 9 (.val 10 (.one 11 (.done))))))))))))) rfl (by kernel_rfl) ?_
  simp[gc,g0,x5,x7,xz];have g2c:∀M,(G.set f .dead++M)[4]? =some (.vars [.i a.types,.sl f 1 0 n,.sl v 3 0 (qM a n O).length]):=fun M=>Qb (Qd zj gc _) M;have g2d:∀M hh,(G.set f .dead++M)[4]'hh= .vars [.i a.types,.sl f 1 0 n,.sl v 3 0 (qM a n O).length]:=fun M hh=>(yQ hh).2 (g2c M);refine Qf tOk rfl rfl T22 rfl T4 rfl (by decide) (by decide) rfl rfl rfl ?_;simp[Qb gf,Qj gf,gf,zq,g2c,g2d];refine⟨by simp[Wi,Qb gf,Qj gf,gf,zq,g2c,g2d]<;>omega,?_⟩;refine Wb fun Z hZ=> ?_;have yd:=Qh go;have ye:=Qh gv;have yg:=Qh gf;have z0:Z[0]? =some (q1t a):=by rw[hZ];exact Qd (by decide) (Qb (Qd w2 g0 _) _) _
  have z1:Z[1]? =some (.vars [.i 0,.nils,.nils]):=by rw[hZ];exact Qd (by decide) (Qb (Qd y9 g1 _) _) _
  have zm:Z[2]? =some (mpO O):=by rw[hZ];exact Qd (by decide) (Qb (Qd yb gm _) _) _
  have zc:Z[4]? =some (.vars [.i a.types,.sl (G.length+1) 1 0 (n+1),.sl v 3 0 (qM a n O).length]):=by rw[hZ];exact Qi (g2c _) _
  have zf:Z[G.length+1]? =some (.arr 4 1 ((fs++[b]).map .bool)):=by rw[hZ,zE (by omega),zH (by simp)];simp
  have zv:Z[v]? =some (.arr 78 3 ((qM a n O).map encMv)):=by rw[hZ];exact Qd (Ne.symm zn) (Qb (Qd ze gv _) _) _
  have zo:Z[o]? =some (.arr 3 1 ((Ye O).map .i)):=by rw[hZ];exact Qd (Ne.symm zy) (Qb (Qd (Ne.symm y6) go _) _) _
  clear hZ g2c g2d g0 g1 gc go gf gv gm;generalize G.length+1=f1 at *
  have cMc:=cM (Ii a c) xr;rw[xu]at cMc;obtain⟨M,hM⟩:∃M,M=qM a n O:=⟨_,rfl⟩
  rw[←hM]at zc zv xp zx;obtain⟨L,hL⟩:∃L,L=Pn a c:=⟨_,rfl⟩
  rw[←hL]at xw x6 zx yz cMc;repeat first|(refine r_ ?_;simp[z0])|refine q_ ?_
  refine Qe rfl rfl (by simp) (cMc) rfl ?_;rintro _ rfl;simp;repeat first|(refine r_ ?_;simp)|refine q_ ?_
  refine Qo (Qc (sl':=[(1,.vptr 0 0),(2,.vptr 1 0),(3,LI CL),(4,.mref 2),(5,.sl o 1 0 (Wq O (L.take 0)).length),(6,.vptr 4 0),(7,.i n),(54,.list (L.map encMv)),(55,.i L.length),(56,.i (0:Nat))]) ?_ (by simp[Uo]));refine Qn (P:=Tryz.prog) (F:=fun(u:Nat×Nat×Nat×List AObj)=>⟨[(1,.vptr 0 0),(2,.vptr 1 0),(3,LI CL),(4,.mref 2),(5,.sl u.2.1 1 0 (Wq O (L.take u.1)).length),(6,.vptr 4 0),(7,.i n),(54,.list (L.map encMv)),(55,.i L.length),(56,.i u.1)],u.2.2.2⟩)
   (fun u=>u.1≤L.length∧u.2.2.2[0]? =some (q1t a)∧u.2.2.2[1]? =some (.vars [.i 0,.nils,.nils])∧u.2.2.2[2]? =some (mpO (Wq O (L.take u.1)))∧u.2.2.2[4]? =some (.vars [.i a.types,.sl f1 1 0 (n+1),.sl u.2.2.1 3 0 (M++qMv O L n u.1).length])∧u.2.2.2[u.2.1]? =some (.arr 3 1 ((Ye (Wq O (L.take u.1))).map .i))∧u.2.2.2[f1]? =some (.arr 4 1 ((fs++[b]).map .bool))∧u.2.2.2[u.2.2.1]? =some (.arr 78 3 ((M++qMv O L n u.1).map encMv))∧(Wq O (L.take u.1)).Nodup∧∀c∈Wq O (L.take u.1),c≤1000000)
   (fun u=>L.length - u.1) ?_ (0,o,v,Z) ⟨xD _,z0,z1,by rw[wJ,Uo];exact zm,by rw[M9,xB];exact zc,by rw[wJ,Uo];exact zo,zf,by rw[M9,xB];exact zv,by rw[wJ,Uo];exact hQ.nd,by rw[wJ,Uo];exact fun c hc=>d0e ha (yy c hc)⟩
  clear z0 z1 zc zo zf zv yd ye yg zm;clear Z;rintro⟨j,o,v,Z⟩ ⟨hj,z0,z1,zm,zc,zo,zf,zv,y2,zb⟩ ih2;simp only at hj z0 z1 zm zc zo zf zv y2 zb ih2 ⊢;repeat first|(refine r_ ?_;simp)|refine q_ ?_
  refine Qa rfl (fun yh=> ?_) (fun yi=> ?_)
  ·have z7:j<L.length:=by simpa using yh
   have xa:IntKind.i64.wrap ((j:Int)+1)=j+1:=wrap_i64 _ (by omega) (by omega);have xb:=z15 O L n z7;have xd:=Jc (o:=O) z7;have we:=k13 O L n j;have wg:(Wq O (L.take j)).length≤O.length+L.length:=x04 O (L.take j) (by simp;omega);have z6:=fun o' v' Z'=>ih2 (j+1,o',v',Z');simp only[xb,xd,←xT]at z6;clear xb xd;obtain⟨d,hd,yj⟩:=x6 _ (zL z7);have yk:(L.map encMv)[j]? =some (encMv L[j]):=by simp[z7]
   have yl:∀hh,(L.map encMv)[j]'hh=encMv L[j]:=fun hh=>by simp
   generalize w3:L[j]=m at *;rw[hd]at z6;simp only[Int.toNat_natCast]at z6;generalize hN:M++qMv O L n j=N at *
   have wh:N.length≤700000:=by rw[←hN,zZ];omega
   generalize Wq O (L.take j)=Oj at *;simp only[encMv]at yk yl;rw[hd]at yk yl
   have wi:4<Z.length:=Qh zc;have y6:o≠f1:=fun e=>by rw[e,zf]at zo;simp at zo
   have y7:o≠v:=fun e=>by rw[e,zv]at zo;simp at zo
   have ze:f1≠v:=fun e=>by rw[e,zv]at zf;simp at zf
   have zy:o≠4:=fun e=>by rw[e,zc]at zo;simp at zo
   have zj:f1≠4:=fun e=>by rw[e,zc]at zf;simp at zf
   have zn:v≠4:=fun e=>by rw[e,zc]at zv;simp at zv
   have x8:o≠0:=fun e=>by rw[e,z0]at zo;simp at zo
   have y8:v≠0:=fun e=>by rw[e,z0]at zv;simp at zv
   have x9:o≠1:=fun e=>by rw[e,z1]at zo;simp at zo
   have zp:v≠1:=fun e=>by rw[e,z1]at zv;simp at zv
   have ya:o≠2:=fun e=>by rw[e,zm]at zo;unfold mpO at zo;simp at zo
   have zz:v≠2:=fun e=>by rw[e,zm]at zv;unfold mpO at zv;simp at zv
   have yb:f1≠2:=fun e=>by rw[e,zm]at zf;unfold mpO at zf;simp at zf
   repeat first|(refine r_ ?_;simp[yk,yl,z7])|refine q_ ?_
   refine Tz fun Y hY=> ?_;have y0:Y[0]? =some (q1t a):=by rw[hY];exact Qb z0 _
   have y1:Y[1]? =some (.vars [.i 0,.nils,.nils]):=by rw[hY];exact Qb z1 _
   have ym:Y[2]? =some (mpO Oj):=by rw[hY];exact Qb zm _
   have yc:Y[4]? =some (.vars [.i a.types,.sl f1 1 0 (n+1),.sl v 3 0 N.length]):=by rw[hY];exact Qb zc _
   have yo:Y[o]? =some (.arr 3 1 ((Ye Oj).map .i)):=by rw[hY];exact Qb zo _
   have yf:Y[f1]? =some (.arr 4 1 ((fs++[b]).map .bool)):=by rw[hY];exact Qb zf _
   have yv:Y[v]? =some (.arr 78 3 (N.map encMv)):=by rw[hY];exact Qb zv _
   have yx:Y[Z.length]? =some (.vars [.i m.src,.i d,.list (m.on.map encL)]):=by rw[hY,zH (by simp)];simp
   clear hY z0 z1 zm zc zo zf zv;generalize Z.length=u at *;clear Z
   have wj:v≠u:=fun e=>by rw[e,yx]at yv;simp at yv
   have w4:o≠u:=fun e=>by rw[e,yx]at yo;simp at yo
   have w5:2≠u:=fun e=>by rw[←e,ym]at yx;unfold mpO at yx;simp at yx
   have wk:4<u:=by omega
   refine Mo rfl rfl rfl rfl (c:=d) rfl (l:=Oj) ym y2 zb yj ?_;by_cases hmem:d∈Oj
   ·have zr:Fs Oj d=Oj:=by unfold Fs;rw[if_pos hmem]
    rw[zr]at z6;rw[if_pos hmem,decide_eq_true hmem];obtain⟨x,hx⟩:∃x,x=Xm Oj d:=⟨_,rfl⟩
    rw[←hx]at z6 ⊢;clear hx zr;simp;repeat first|(refine r_ ?_;simp)|refine q_ ?_
    refine Ql rfl ?_;simp;have zg:=zy;have zh:=y7;have zi:=y2;have yn:=zb;have zt:(N.map encMv).length=N.length:=by simp
    have yp:(N++[(⟨n,x,m.on⟩:Mv)]).map encMv=N.map encMv++[encMv ⟨n,x,m.on⟩]:=by simp
    have yq:(N++[(⟨n,x,m.on⟩:Mv)]).length=N.length+1:=by simp
    rw[yp,yq]at z6;generalize N.map encMv=NM at *
    have g3c:∀M,(Y.set v .dead++M)[4]? =some (.vars [.i a.types,.sl f1 1 0 (n+1),.sl v 3 0 N.length]):=fun M=>Qb (Qd zn yc _) M;have g3d:∀M hh,(Y.set v .dead++M)[4]'hh= .vars [.i a.types,.sl f1 1 0 (n+1),.sl v 3 0 N.length]:=fun M hh=>(yQ hh).2 (g3c M);repeat first|(refine r_ ?_;simp[yc,yx])|refine q_ ?_
    refine Qf tOk rfl rfl T23 rfl T78 rfl (by decide) (by decide) rfl rfl rfl ?_;simp[Qb yv,Qj yv,yv,zt,g3c,g3d];refine⟨by simp[Wi,Qb yv,Qj yv,yv,zt,g3c,g3d]<;>omega,?_⟩;refine Wb fun W hW=> ?_;have yr:=Qh yv;have yt:=Qh yc;have w0:W[0]? =some (q1t a):=by rw[hW];exact Qd (by decide) (Qb (Qd y8 y0 _) _) _
    have w1:W[1]? =some (.vars [.i 0,.nils,.nils]):=by rw[hW];exact Qd (by decide) (Qb (Qd zp y1 _) _) _
    have wm:W[2]? =some (mpO Oj):=by rw[hW];exact Qd (by decide) (Qb (Qd zz ym _) _) _
    have wc:W[4]? =some (.vars [.i a.types,.sl f1 1 0 (n+1),.sl (Y.length+1) 3 0 (N.length+1)]):=by rw[hW];exact Qi (g3c _) _
    have wo:W[o]? =some (.arr 3 1 ((Ye Oj).map .i)):=by rw[hW];exact Qd (Ne.symm zg) (Qb (Qd (Ne.symm zh) yo _) _) _
    have wf:W[f1]? =some (.arr 4 1 ((fs++[b]).map .bool)):=by rw[hW];exact Qd (Ne.symm zj) (Qb (Qd (Ne.symm ze) yf _) _) _
    have wv:W[Y.length+1]? =some (.arr 78 3 (NM++[encMv ⟨n,x,m.on⟩])):=by rw[hW,zE (by omega),zH (by simp)];simp
    clear hW;repeat first|(refine r_ ?_;simp[xa])|refine q_ ?_
    refine Qc (sl':=[(1,.vptr 0 0),(2,.vptr 1 0),(3,LI CL),(4,.mref 2),(5,.sl o 1 0 Oj.length),(6,.vptr 4 0),(7,.i n),(54,.list (L.map encMv)),(55,.i L.length),(56,.i (j+1:Nat))]) ?_ (by simp);exact z6 o (Y.length+1) W ⟨by omega,w0,w1,wm,wc,wo,wf,wv,zi,yn⟩ (by omega)
   ·have zr:Fs Oj d=Oj++[d]:=by unfold Fs;rw[if_neg hmem]
    have xe:=g0v hmem;rw[zr,xe]at z6;rw[if_neg hmem,decide_eq_false hmem];clear zr xe;simp;repeat first|(refine r_ ?_;simp)|refine q_ ?_
    refine Ql rfl ?_;simp;repeat first|(refine r_ ?_;simp[yx])|refine q_ ?_
    refine v06 rfl rfl rfl rfl (c:=d) rfl (l:=Oj) rfl ym zb yj hmem ?_;simp;refine Wb fun X hX=> ?_;have x0:X[0]? =some (q1t a):=by rw[hX];exact Qd (by decide) y0 _
    have x1:X[1]? =some (.vars [.i 0,.nils,.nils]):=by rw[hX];exact Qd (by decide) y1 _
    have xm:X[2]? =some (mpO (Oj++[d])):=by rw[hX];exact Qi ym _
    have xc:X[4]? =some (.vars [.i a.types,.sl f1 1 0 (n+1),.sl v 3 0 N.length]):=by rw[hX];exact Qd (by decide) yc _
    have xo:X[o]? =some (.arr 3 1 ((Ye Oj).map .i)):=by rw[hX];exact Qd (Ne.symm ya) yo _
    have xf:X[f1]? =some (.arr 4 1 ((fs++[b]).map .bool)):=by rw[hX];exact Qd (Ne.symm yb) yf _
    have xv:X[v]? =some (.arr 78 3 (N.map encMv)):=by rw[hX];exact Qd (Ne.symm zz) yv _
    have xx:X[u]? =some (.vars [.i m.src,.i d,.list (m.on.map encL)]):=by rw[hX];exact Qd w5 yx _
    clear hX y0 y1 ym yc yo yf yv yx;clear Y;have w6:(Ye Oj).length=Oj.length:=by simp
    have w7:Ye (Oj++[d])=Ye Oj++[(d:Int)]:=by simp
    rw[w7]at z6;generalize Ye Oj=NO at *
    have zu:(NO.map AV.i).length=Oj.length:=by simp[w6]
    have x0s:∀E,(X.set o .dead++E)[u]? =some (.vars [.i m.src,.i d,.list (m.on.map encL)]):=fun E=>Qb (Qd w4 xx _) E;repeat first|(refine r_ ?_;simp[xx])|refine q_ ?_
    refine Qf tOk rfl rfl T40 rfl T3 rfl (by decide) (by decide) rfl rfl rfl ?_;simp[Qb xo,Qj xo,xo,zu];refine⟨by simp[Wi,Qb xo,Qj xo,xo,zu]<;>omega,?_⟩;refine Wb fun Y hY=> ?_;have wq:=Qh xv;have wu:=Qh xf;have wx:=Qh xc;have y0:Y[0]? =some (q1t a):=by rw[hY];exact Qb (Qd x8 x0 _) _
    have y1:Y[1]? =some (.vars [.i 0,.nils,.nils]):=by rw[hY];exact Qb (Qd x9 x1 _) _
    have ym:Y[2]? =some (mpO (Oj++[d])):=by rw[hY];exact Qb (Qd ya xm _) _
    have yc:Y[4]? =some (.vars [.i a.types,.sl f1 1 0 (n+1),.sl v 3 0 N.length]):=by rw[hY];exact Qb (Qd zy xc _) _
    have yf:Y[f1]? =some (.arr 4 1 ((fs++[b]).map .bool)):=by rw[hY];exact Qb (Qd y6 xf _) _
    have yv:Y[v]? =some (.arr 78 3 (N.map encMv)):=by rw[hY];exact Qb (Qd y7 xv _) _
    have yx:Y[u]? =some (.vars [.i m.src,.i d,.list (m.on.map encL)]):=by rw[hY];exact x0s _
    have yo:Y[X.length+1]? =some (.arr 3 1 ((NO++[(d:Int)]).map .i)):=by rw[hY,zH (by simp)];simp
    clear hY;obtain⟨x,hx⟩:∃x,x=Oj.length:=⟨_,rfl⟩
    refine Qz (sl':=[(1,.vptr 0 0),(2,.vptr 1 0),(3,LI CL),(4,.mref 2),(5,.sl (X.length+1) 1 0 (Oj++[d]).length),(6,.vptr 4 0),(7,.i n),(10,.vptr u 0),(11,.i x),(54,.list (L.map encMv)),(55,.i L.length),(56,.i j)]) ?_ (by simp[hx]);rw[←hx]at z6;have zg:X.length+1≠4:=by omega
    have zh:X.length+1≠v:=by omega
    have zi:(Oj++[d]).Nodup:=vv.2 ⟨y2,by simp,fun x hx y hy e=>by rw[zQ.1 hy]at e;exact hmem (e▸hx)⟩;have yn:∀c∈Oj++[d],c≤1000000:=fun c hc=>by
     rcases zW.1 hc with hc|hc
     ·exact zb c hc
     ·rw[zQ.1 hc];exact yj
    generalize X.length+1=oq at *;generalize NO++[(d:Int)]=NQ at *;clear hx;generalize Oj++[d]=OQ at *
    have zt:(N.map encMv).length=N.length:=by simp
    have yp:(N++[(⟨n,x,m.on⟩:Mv)]).map encMv=N.map encMv++[encMv ⟨n,x,m.on⟩]:=by simp
    have yq:(N++[(⟨n,x,m.on⟩:Mv)]).length=N.length+1:=by simp
    rw[yp,yq]at z6;generalize N.map encMv=NM at *
    have g3c:∀M,(Y.set v .dead++M)[4]? =some (.vars [.i a.types,.sl f1 1 0 (n+1),.sl v 3 0 N.length]):=fun M=>Qb (Qd zn yc _) M;have g3d:∀M hh,(Y.set v .dead++M)[4]'hh= .vars [.i a.types,.sl f1 1 0 (n+1),.sl v 3 0 N.length]:=fun M hh=>(yQ hh).2 (g3c M);repeat first|(refine r_ ?_;simp[yc,yx])|refine q_ ?_
    refine Qf tOk rfl rfl T23 rfl T78 rfl (by decide) (by decide) rfl rfl rfl ?_;simp[Qb yv,Qj yv,yv,zt,g3c,g3d];refine⟨by simp[Wi,Qb yv,Qj yv,yv,zt,g3c,g3d]<;>omega,?_⟩;refine Wb fun W hW=> ?_;have yr:=Qh yv;have yt:=Qh yc;have w0:W[0]? =some (q1t a):=by rw[hW];exact Qd (by decide) (Qb (Qd y8 y0 _) _) _
    have w1:W[1]? =some (.vars [.i 0,.nils,.nils]):=by rw[hW];exact Qd (by decide) (Qb (Qd zp y1 _) _) _
    have wm:W[2]? =some (mpO OQ):=by rw[hW];exact Qd (by decide) (Qb (Qd zz ym _) _) _
    have wc:W[4]? =some (.vars [.i a.types,.sl f1 1 0 (n+1),.sl (Y.length+1) 3 0 (N.length+1)]):=by rw[hW];exact Qi (g3c _) _
    have wo:W[oq]? =some (.arr 3 1 (NQ.map .i)):=by rw[hW];exact Qd (Ne.symm zg) (Qb (Qd (Ne.symm zh) yo _) _) _
    have wf:W[f1]? =some (.arr 4 1 ((fs++[b]).map .bool)):=by rw[hW];exact Qd (Ne.symm zj) (Qb (Qd (Ne.symm ze) yf _) _) _
    have wv:W[Y.length+1]? =some (.arr 78 3 (NM++[encMv ⟨n,x,m.on⟩])):=by rw[hW,zE (by omega),zH (by simp)];simp
    clear hW;repeat first|(refine r_ ?_;simp[xa])|refine q_ ?_
    refine Qc (sl':=[(1,.vptr 0 0),(2,.vptr 1 0),(3,LI CL),(4,.mref 2),(5,.sl oq 1 0 OQ.length),(6,.vptr 4 0),(7,.i n),(54,.list (L.map encMv)),(55,.i L.length),(56,.i (j+1:Nat))]) ?_ (by simp);exact z6 oq (Y.length+1) W ⟨by omega,w0,w1,wm,wc,wo,wf,wv,zi,yn⟩ (by omega)
  ·have zw:j=L.length:=by simp at yi;omega
   subst zw;rw[yW]at zo zm ⊢;repeat first|(refine r_ ?_;simp[hw])|refine q_ ?_
   refine Qc (sl':=[(1,.vptr 0 0),(2,.vptr 1 0),(3,LI CL),(4,.mref 2),(5,.sl o 1 0 (Wq O L).length),(6,.vptr 4 0),(7,.i (n+1:Nat))]) ?_ (by simp);exact zx o f1 v Z ⟨yz,z0,z1,zm,zc,zo,zf,zv⟩ (by omega)
 ·have yu:n=O.length:=by simp at xn;have:=hQ.le;omega
  rw[u10 ha hQ yu];have xg:=u1s a (O.take n);rw[wn,Nat.min_eq_left hQ.le]at xg;generalize qF a (O.take n)=fs at *;generalize qM a n O=M at *
  have ze:f≠v:=fun e=>by rw[e,gv]at gf;simp at gf
  have zj:f≠4:=fun e=>by rw[e,gc]at gf;simp at gf
  have zn:v≠4:=fun e=>by rw[e,gc]at gv;simp at gv
  have y9:f≠1:=fun e=>by rw[e,g1]at gf;simp at gf
  have zp:v≠1:=fun e=>by rw[e,g1]at gv;simp at gv
  rw[←xg]at gc;refine Qz (sl':=[(2,.vptr 1 0),(6,.vptr 4 0)]) ?_ (by simp);refine Wg v gv 4 gc ?_;simp[ze];rw[zR (by simp)];refine Wb fun Z hZ=> ?_;have wy:=Qh gv;have z2:Z[4]? =some (.vars [.i a.types,.sl f 1 0 fs.length,.list (M.map encMv)]):=by rw[hZ,zO (by have:=Qh gc;simpa using this)]
  have zf:Z[f]? =some (.arr 4 1 (fs.map .bool)):=by rw[hZ,zE (Ne.symm zj),zE (Ne.symm ze)];exact gf
  have z1:Z[1]? =some (.vars [.i 0,.nils,.nils]):=by rw[hZ,zE (by decide),zE zp];exact g1
  clear hZ;refine Wg f zf 4 z2 ?_;simp;rw[zR (by simp)];refine Wb fun X hX=> ?_;have x2:X[4]? =some (.vars [.i a.types,.list (fs.map .bool),.list (M.map encMv)]):=by rw[hX,zO (by have:=Qh z2;simpa using this)]
  have x1:X[1]? =some (.vars [.i 0,.nils,.nils]):=by rw[hX,zE (by decide),zE y9];exact z1
  clear hX;have x1s:∀Y,(X.set 1 Y)[1]? =some Y:=fun Y=>Qi x1 Y;repeat first|(refine r_ ?_;simp[x2,x1,x1s])|refine q_ ?_
end Go.Abs
namespace Go.Abs
open Go Go.Proofs
theorem y12{a:Aut}(ha:Dfa a){m:Mv}(hm:m∈(E2 a).mv):E5 a.types m.on=0↔(m.on.any fun s=>decide (256<s.length))=false:=by
 have h:=w1w ha;have hT:=ha.ok.types;have hw:PWf a.types.toNat m.on:=h.on m hm;rw[Ec];simp only[List.any_eq_false,decide_eq_true_eq];constructor
 ·rintro⟨_,h2⟩ s hs;have:=(h2.2 s hs).len;omega
 ·intro h2;refine⟨hT,hw.1,fun s hs=> ?_⟩;have z1:=hw.2 s hs;exact Ga z1.1 (q0k z1.1 z1.2) (by have:=h2 s hs;omega)
theorem k0w{a:Aut}(h:Wx a≠0):(T6 a).1=Wx a:=by unfold T6;rw[Mk h,if_pos h]
theorem k0h{a:Aut}(h:(T6 a).1≠0):w09 a=((T6 a).1,U0):=by rw[w09,if_pos h]
theorem u11{a:Aut}(h:Wx a≠0):w09 a=(Wx a,U0):=by rw[k0h (by rw[k0w h];exact h),k0w h]
theorem Zf{a:Aut}(h:(T6 a).1=0):S6 (T6 a).2=Sd (T6 a).2:=by rw[S6,if_neg (fun k=>k ((A8 _).2 (c1g h)))]
theorem k1i{a:Aut}(h:(T6 a).1=0)(h2:(S6 (T6 a).2).1≠0):w09 a=((S6 (T6 a).2).1,U0):=by rw[Zf h]at *;rw[w09,if_neg (fun k=>k h),if_pos h2]
theorem d1r{a:Aut}(h:(T6 a).1=0)(h2:(S6 (T6 a).2).1=0):w09 a=if Ms (E2 (S6 (T6 a).2).2)then(5,U0)else(0,E2 (S6 (T6 a).2).2):=by rw[Zf h]at *;rw[w09,if_neg (fun k=>k h),if_neg (fun k=>k h2)]
theorem z1q{a:Aut}(z1:Wx a=0)(h:(T6 a).1=0)(h2:(S6 (T6 a).2).1=0):Dfa (S6 (T6 a).2).2:=by rw[Zf h]at *;exact(g1o ((A8 a).1 z1) (d:=(T6 a).2) (c:=(Sd (T6 a).2).2) (uB h rfl) (uB h2 rfl)).1
end Go.Abs
