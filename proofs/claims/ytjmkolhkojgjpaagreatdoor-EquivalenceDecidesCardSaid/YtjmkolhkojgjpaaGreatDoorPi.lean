/- Part Pi of the proof: an abstract machine over the model, and what the functions of the program hand back in its terms. No condition. -/
import Derived.Test.YtjmkolhkojgjpaaGreatDoorPh
import Derived.Test.YtjmkolhkojgjpaaGreatDoorPf
import Derived.Test.YtjmkolhkojgjpaaGreatDoorPc
import Derived.Test.YtjmkolhkojgjpaaGreatDoorPg
import Derived.DeepKeys4
import Derived.Test.YtjmkolhkojgjpaaGreatDoorPe
set_option linter.all false
open List renaming mem_append→zO,mem_singleton→zI,nodup_append→vP,foldl_cons→yV,mem_cons→zT,foldl_append→xP,mem_map→zK,map_append→yF,map_cons→yJ,map_nil→xI,getElem?_map→zQ,nodup_cons→ua,take_append_drop→xE,pairwise_append→zX,getElem?_eq_getElem→zD,getElem_mem→zG,getElem_of_mem→yG,take_sublist→vJ,take_succ_eq_append_getElem→zJ,range_succ→wZ,length_map→zV,take_length→zZ,length_take→yP,length_drop→yS,drop_zero→tx,take_of_length_le→zM,getElem?_eq_some_iff→zA,length_cons→yB,length_nil→tp,getElem?_append_right→zC,range→yD,ext_getElem?→xD,getElem?_set_self→zH,getElem?_set_ne→zB,getElem?_eq_none→x_,getElem_eq_iff→xF,drop_length→yY,getD→yT,length_filter_le→vE,append_nil→xO,getElem?_append_left→zE
open Bool renaming eq_iff_iff→xR
open Nat renaming le_refl→zL,zero_le→xA,le_trans→yO,succ_le_succ→uA,not_lt_zero→tA
open Int renaming le_refl→yI
open Prod renaming ext→tg
open Option renaming map_eq_some_iff→zN
set_option maxHeartbeats 8000000
set_option linter.unusedSimpArgs false
set_option maxRecDepth 100000
namespace Go.Abs
def adQ(l:List (Int×Int))(t:Int×Int):List (Int×Int):=if t∈l then l else l++[t]
theorem Ca{l:List (Int×Int)}{t:Int×Int}(h:t∈l):adQ l t=l:=if_pos h
theorem L5{l:List (Int×Int)}{t:Int×Int}(h:t∉l):adQ l t=l++[t]:=if_neg h
theorem j1o{l:List (Int×Int)}{t s:Int×Int}:s∈adQ l t↔s∈l∨s=t:=by
 unfold adQ;by_cases h:t∈l
 ·rw[if_pos h];exact⟨.inl,fun k=>k.elim id fun e=>e▸h⟩
 ·rw[if_neg h,zO,zI]
theorem q2e{l:List (Int×Int)}{t:Int×Int}(h:l.Nodup):(adQ l t).Nodup:=by
 unfold adQ;by_cases hm:t∈l
 ·rw[if_pos hm];exact h
 ·rw[if_neg hm,vP];exact⟨h,by simp,fun x hx y hy e=>hm (by rw[zI]at hy;rw[←hy,←e];exact hx)⟩
theorem Ut{s:Int×Int}:∀(ys l:List (Int×Int)),s∈ys.foldl adQ l↔s∈l∨s∈ys
 |[],l=>by simp
 |y::ys,l=>by
  rw[yV,Ut ys,j1o,zT];constructor
  ·rintro((h|h)|h)
   ·exact .inl h
   ·exact .inr (.inl h)
   ·exact .inr (.inr h)
  ·rintro(h|h|h)
   ·exact .inl (.inl h)
   ·exact .inl (.inr h)
   ·exact .inr h
theorem N4:∀(ys l:List (Int×Int)),l.Nodup→(ys.foldl adQ l).Nodup
 |[],_,h=>h
 |y::ys,l,h=>N4 ys _ (q2e h)
theorem c0b(l:List (Int×Int))(y:Int×Int)(zs:List (Int×Int)):(adQ zs y).foldl adQ l=adQ (zs.foldl adQ l) y:=by
 by_cases h:y∈zs
 ·rw[Ca h,Ca ((Ut zs l).2 (.inr h))]
 ·rw[L5 h,xP];rfl
theorem Xt(l:List (Int×Int)):∀(ys zs:List (Int×Int)),(ys.foldl adQ zs).foldl adQ l=ys.foldl adQ (zs.foldl adQ l)
 |[],_=>rfl
 |y::ys,zs=>by rw[yV,Xt l ys,c0b,yV]
def w03(a b:Aut)(s:Int×Int):List (Int×Int):=(Wg a b).map fun x=>R3 a b s x
def x0p(a b:Aut)(s:Int×Int):List (Int×Int):=(w03 a b s).foldl adQ []
theorem d0n{a b:Aut}{s t:Int×Int}:t∈x0p a b s↔∃e∈R4 a b s,e.2=t:=by
 unfold x0p w03 R4;rw[Ut];simp only[List.not_mem_nil,false_or,zK];constructor
 ·rintro⟨x,hx,e⟩;exact⟨_,⟨x,hx,rfl⟩,e⟩
 ·rintro⟨e,⟨x,hx,rfl⟩,h⟩;exact⟨x,hx,h⟩
theorem j0q(a b:Aut)(s:Int×Int)(l:List (Int×Int)):(x0p a b s).foldl adQ l=(w03 a b s).foldl adQ l:=by unfold x0p;rw[Xt];rfl
def x0h(a b:Aut):Nat→Nat→List (Int×Int)→List (Int×Int)
 |0,_,l=>l
 |f+1,n,l=>match l[n]? with
  |none=>l
  |some s=>x0h a b f (n+1) ((w03 a b s).foldl adQ l)
theorem d0m(L:List ((Int×Int)×List Sy))(t:Int×Int)(w:List Sy):(Zv L t w).map (·.1)=adQ (L.map (·.1)) t:=by
 unfold Zv adQ;by_cases h:t∈L.map (·.1)
 ·rw[if_pos h,if_pos h]
 ·rw[if_neg h,if_neg h,yF,yJ,xI]
theorem X9(w:List Sy):∀(es:List (Sy×(Int×Int))) (L:List ((Int×Int)×List Sy)),(W3 L w es).map (·.1)=(es.map (·.2)).foldl adQ (L.map (·.1))
 |[],_=>rfl
 |e::es,L=>by show(W3 (Zv L e.2 (w++[e.1])) w es).map (·.1)=_;rw[X9 w es,yJ,yV,d0m]
theorem q0z(a b:Aut):∀(f n:Nat) (L:List ((Int×Int)×List Sy)),(S9 (fun _=>false) (R4 a b) f n L).2.map (·.1)=x0h a b f n (L.map (·.1))
 |0,_,_=>rfl
 |f+1,n,L=>by
  rw[S9,x0h,zQ];cases h:L[n]? with
  |none=>rfl
  |some e=>obtain⟨s,w⟩:=e;simp only[Option.map_some];rw[if_neg (by simp),q0z a b f,X9,show(R4 a b s).map (·.2)=w03 a b s by unfold R4 w03;simp]
theorem v1i(a b:Aut):G6 a b=x0h a b ((a.fin.length+1) * (b.fin.length+1)+1) 0 [(0,0)]:=by unfold G6;rw[q0z];rfl
theorem g01{a b:Aut}{f n:Nat}{l:List (Int×Int)}(h:l[n]? =none):x0h a b f n l=l:=by
 cases f with
 |zero=>rfl
 |succ f=>rw[x0h,h]
theorem j0h{a b:Aut}{f n:Nat}{l:List (Int×Int)}{s:Int×Int}(h:l[n]? =some s):x0h a b (f+1) n l=x0h a b f (n+1) ((x0p a b s).foldl adQ l):=by rw[x0h,h,j0q]
theorem q1x{l:List (Int×Int)}(hl:l.Pairwise pLt){x:Int×Int}(hx:x∉l){k:Nat}(hk:k≤l.length)(h1:k=0∨∀y,l[k - 1]? =some y→¬pLt x y)(h2:∀y∈l.drop k,pLt x y):l.take k++x::l.drop k=En (x::l):=by
 have za:(x::l).Nodup:=ua.2 ⟨hx,hl.imp fun h e=>(e▸h).irr⟩;refine Yu ?_ (Tj za) fun s=> ?_
 ·have z6:=hl;rw[←xE k l,zX]at z6;rw[zX];refine⟨z6.1,List.pairwise_cons.2 ⟨h2,z6.2.1⟩,fun y hy z hz=> ?_⟩;rcases zT.1 hz with rfl|hz
  ·rcases h1 with rfl|h1
   ·simp at hy
   ·have zb:0<k:=by
     rcases Nat.eq_zero_or_pos k with rfl|h
     ·simp at hy
     ·exact h
    have z7:k - 1<l.length:=by omega
    have z1:=h1 _ (zD z7);have z8:pLt l[k - 1] z:=(pLt.tri z l[k - 1]).resolve_left z1 |>.resolve_left fun e=>hx (e▸zG z7);obtain⟨i,hi,e⟩:=yG hy;have zc:i<k:=by simp at hi;omega
    rw[List.getElem_take]at e;by_cases hi1:i=k - 1
    ·subst hi1;rw[←e];exact z8
    ·have:=List.pairwise_iff_getElem.1 hl i (k - 1) (by omega) z7 (by omega);rw[e]at this;exact this.trans z8
  ·exact z6.2.2 y hy z hz
 ·rw[W5,zO,zT,zT]
  conv=>rhs;rw[←xE k l,zO]
  constructor
  ·rintro(h|h|h)
   ·exact .inr (.inl h)
   ·exact .inl h
   ·exact .inr (.inr h)
  ·rintro(h|h|h)
   ·exact .inr (.inl h)
   ·exact .inl h
   ·exact .inr (.inr h)
theorem j0s{l:List (Int×Int)}(hl:l.Nodup){i:Nat}(hi:i<l.length):En (l[i]::En (l.take i))=En (l.take (i+1)):=by
 have hs:(l.take (i+1)).Nodup:=hl.sublist (vJ _ _);have ht:(l.take i).Nodup:=hl.sublist (vJ _ _);have z1:l[i]∉l.take i:=fun hm=>by rw[zJ hi,vP]at hs;exact hs.2.2 _ hm _ (zI.2 rfl) rfl
 refine Yu (Tj (ua.2 ⟨fun hm=>z1 (W5.1 hm),(Tj ht).imp fun h e=>(e▸h).irr⟩)) (Tj hs) fun s=> ?_;rw[W5,W5,zT,W5,zJ hi,zO,zI];exact⟨Or.symm,Or.symm⟩
end Go.Abs
namespace Go.Abs
open Go Go.Proofs Go.Maps Go.RowKit
attribute [simp] T66 T41
def pqr(s:Int×Int):AV:= .agg [.i s.1,.i s.2]
abbrev LQp (l:List (Int×Int)):AV:= .list (l.map pqr)
theorem y1o(a b c d:Int):eqA T 9 66 (.agg [.int .i64 a,.int .i64 b]) (.agg [.int .i64 c,.int .i64 d])=some (a==c && b==d):=by simp[eqA,I8,Ay,TI.agg,wZ]
theorem w2y(s t:Int×Int):(s.1==t.1 && s.2==t.2)=decide (s=t):=by rw[xR];simp[Prod.ext_iff]
theorem Lm{l:List (Int×Int)}{s:Int×Int}{j:Nat}(h:j<l.length):s∈l.take (j+1)↔s∈l.take j∨s=l[j]:=by rw[zJ h,zO,zI]
theorem j09(l:List (Int×Int))(s:Int×Int):PC Tryz.prog 150 [LQp l,pqr s] (fun r=>r= .bool (decide (s∈l))):=by
 refine Qh tOk Tryz.func150 rfl Tryz.results150 rfl (by simp[Tryz.ntmps150]) ?_;rw[Tryz.ntmps150];simp only[Qe];simp only[pqr];refine Rp 0 rfl (fun hlen=> ?_);rw[zV]at hlen;repeat first|(refine r_ ?_;simp)|refine q_ ?_
 refine Qt l.length (fun j=>s∉l.take j) (fun j=>[(0,.list (l.map pqr)),(3,.vptr 0 0),(4,.bool false),(5,.i j)]) (fun _=>[.vars [.i s.1,.i s.2]]) rfl (by simp) (by simp[pqr]) (by simp) (by simp) (by simp) ?_;intro j hj hI ih;repeat first|(refine r_ ?_;simp)|refine q_ ?_
 refine Qa rfl (fun za=> ?_) (fun zb=> ?_)
 ·have z1:j<l.length:=by simpa using za
  have hw:IntKind.i64.wrap ((j:Int)+1)=j+1:=wrap_i64 _ (by omega) (by omega);have z7:(l.map pqr)[j]? =some (pqr l[j]):=by simp[z1]
  have z8:∀hh,(l.map pqr)[j]'hh=pqr l[j]:=fun hh=>by simp
  have zc:=Lm (s:=s) z1;have zd:l[j]∈l:=zG z1;generalize l[j]=t at *;simp only[pqr]at z7 z8
  repeat first|(refine r_ ?_;simp)|refine q_ ?_
  refine Qk tOk mixed [] (.val 0 (.val 1 (.val 2 (.val 3 (.val 4 (.val 5 (.done))))))) rfl (by kernel_rfl) ?_;simp[z7,z8,z1,y1o];rw[w2y];refine Qa rfl (fun h=> ?_) (fun h=> ?_)
  ·have e:t=s:=by simpa using h
   subst e;repeat first|(refine r_ ?_;simp)|refine q_ ?_
   exact zd
  ·have e:t≠s:=by simpa using h
   repeat first|(refine r_ ?_;simp[hw])|refine q_ ?_
   refine Qq _ (ih z1 (fun k=>(zc.1 k).elim hI fun k=>e k.symm)) rfl (by simp) ?_ (by simp) (by simp);simp
 ·have z6:j=l.length:=by simp at zb;omega
  subst z6;rw[zZ]at hI;repeat first|(refine r_ ?_;simp)|refine q_ ?_
  exact hI
theorem u0i(x y:Int×Int):(x.1<y.1∧pLt x y)∨(¬x.1<y.1∧x.1=y.1∧x.2<y.2∧pLt x y)∨(¬x.1<y.1∧x.1=y.1∧¬x.2<y.2∧¬pLt x y)∨(¬x.1<y.1∧x.1≠y.1∧¬pLt x y):=by unfold pLt;omega
theorem q08(l:List (Int×Int))(x:Int×Int)(hs:l.Pairwise pLt)(hx:x∉l)(zp:l.length≤1000000):PC Tryz.prog 151 [LQp l,pqr x] (fun r=>r=LQp (En (x::l))):=by
 refine Qh tOk Tryz.func151 rfl Tryz.results151 rfl (by simp[Tryz.ntmps151]) ?_;rw[Tryz.ntmps151];simp only[Qe];simp only[pqr];refine Rp 0 rfl (fun hlen=> ?_);rw[zV]at hlen;repeat first|(refine r_ ?_;simp)|refine q_ ?_
 refine Qm (Qb (sl':=[(0,.list (l.map pqr)),(3,.vptr 0 0),(5,.i l.length)]) ?_ (by simp[pqr]));refine Ql (P:=Tryz.prog) (F:=fun(k:Nat)=>⟨[(0,.list (l.map pqr)),(3,.vptr 0 0),(5,.i k)],[.vars [.i x.1,.i x.2]]⟩)
  (fun k=>k≤l.length∧∀y∈l.drop k,pLt x y) (fun k=>k) ?_ l.length ⟨zL _,by simp⟩
 rintro k ⟨hk,hd⟩ ih;have za:(k=0∨∀y,l[k - 1]? =some y→¬pLt x y)→l.take k++x::l.drop k=En (x::l):=fun h1=>q1x hs hx hk h1 hd;have zf:(l.map pqr).take k=(l.take k).map pqr:=by rw[List.map_take]
 have zg:(l.map pqr).drop k=(l.drop k).map pqr:=by rw[List.map_drop]
 have zh:∀x∈l.map pqr,x.cells.length=2:=fun x hx=>by obtain⟨y,_,rfl⟩:=zK.1 hx;rfl
 simp only[AV.cells]at zh;have zq:=eq_true zh;obtain⟨A,z1⟩:∃A,A=l.take k:=⟨_,rfl⟩
 obtain⟨B,z6⟩:∃B,B=l.drop k:=⟨_,rfl⟩
 by_cases h0:k=0
 ·subst h0;have zi:True:=trivial;have he:=za (.inl rfl);repeat first|(refine r_ ?_;simp)|refine q_ ?_
  have zn:IntKind.i64.wrap (-1)= -1:=by decide
  refine Qk tOk mixed [] (.val 0 (.val 1 (.val 2 (.val 3 (.val 4 (.val 5 (.val 6 (.val 7 (.val 8 (.val 9 (.val 10 (.val 11 (.val 12 (.val 13 (.val 14 (.val 15 (.val 16 (.val 17 (.val 18 (.val 19 (.val 20 (.val 21 (.val 22 (.val 23 (.val 24 (.val 25 (.val 26 (.val 27 (.val 28 (.val 29 (.val 30 (.val 31 (.val 32 (.val 33 (.val 34 (.done)))))))))))))))))))))))))))))))))))) rfl (by kernel_rfl) ?_;simp[zn];refine Qa rfl (fun h=>by simp at h) (fun _=> ?_);refine Q1 (sl':=[(0,.list (l.map pqr)),(3,.vptr 0 0),(5,.i (0:Nat))]) ?_ (by simp);repeat first|(refine r_ ?_;simp[zi])|refine q_ ?_
  rw[if_pos (fun v hv=>by obtain⟨y,_,rfl⟩:=zK.1 hv;rfl)];simp;rw[show AV.list []=AV.list (A.map pqr) by rw[z1];rfl];have zj:A.length≤1000000:=by rw[z1,yP];omega
  have zk:B.length≤1000000:=by rw[z6,yS];omega
  have zl:(A.map pqr).length=A.length:=by simp
  refine Qf tOk rfl rfl T41 rfl T66 rfl (by decide) (by decide) rfl rfl rfl ?_;simp;refine⟨⟨fun v hv=> ?_,by simp;omega⟩,?_⟩
  ·obtain⟨c',_,rfl⟩:=zK.1 hv;exact⟨rfl,rfl⟩
  repeat first|(refine r_ ?_;simp)|refine q_ ?_
  refine Qf tOk rfl rfl T41 rfl T66 rfl (by decide) (by decide) rfl rfl rfl ?_;simp;refine⟨by simp[Wp]<;>omega,?_⟩;repeat first|(refine r_ ?_;simp[zi])|refine q_ ?_
  rw[if_pos (fun v hv=>by obtain⟨y,_,rfl⟩:=zK.1 hv;rfl)];simp;rw[tx]at z6;refine Qf tOk rfl rfl T41 rfl T66 rfl (by decide) (by decide) rfl rfl rfl ?_;simp;refine⟨⟨fun v hv=> ?_,by simp;omega⟩,?_⟩
  ·obtain⟨c',_,rfl⟩:=zK.1 hv;exact⟨rfl,rfl⟩
  repeat first|(refine r_ ?_;simp)|refine q_ ?_
  refine⟨by omega,?_⟩;rw[zM (by simp;omega),←he];simp[z1,tx,pqr]
 ·obtain⟨m,rfl⟩:∃m,k=m+1:=⟨k - 1,by omega⟩
  have hw:IntKind.i64.wrap (m:Int)=m:=wrap_i64 _ (by omega) (by omega);have z8:m<l.length:=by omega
  have zd:(0:Int)≤m+1:=by omega
  have ze:(m:Int)+1≤l.length:=by omega
  have zb:(l.map pqr)[m]? =some (pqr l[m]):=by simp[z8]
  have zc:∀hh,(l.map pqr)[m]'hh=pqr l[m]:=fun hh=>by simp
  have hg:l[m+1 - 1]? =some l[m]:=by simp[z8]
  have zo:l.drop m=l[m]::l.drop (m+1):=List.drop_eq_getElem_cons z8;generalize l[m]=y at *
  have z7:¬pLt x y→List.take (m+1) l++x::List.drop (m+1) l=En (x::l):=fun h=>za (.inr fun z hz=>by rw[hg]at hz;cases hz;exact h);have zm:pLt x y→∀z∈l.drop m,pLt x z:=fun h z hz=>by rw[zo]at hz;exact(zT.1 hz).elim (fun e=>e▸h) (hd z)
  simp only[pqr]at zb zc;rcases u0i x y with⟨c1,c2⟩|⟨c1,c2,c3,c4⟩|⟨c1,c2,c3,c4⟩|⟨c1,c2,c3⟩
  ·have d1:decide (x.1<y.1)=true:=by simpa using c1
   repeat first|(refine r_ ?_;simp)|refine q_ ?_
   refine Qk tOk mixed [] (.val 0 (.val 1 (.val 2 (.val 3 (.val 4 (.val 5 (.val 6 (.val 7 (.val 8 (.val 9 (.val 10 (.val 11 (.val 12 (.val 13 (.val 14 (.val 15 (.val 16 (.val 17 (.val 18 (.val 19 (.val 20 (.val 21 (.val 22 (.val 23 (.val 24 (.val 25 (.val 26 (.val 27 (.val 28 (.val 29 (.val 30 (.val 31 (.val 32 (.val 33 (.val 34 (.done)))))))))))))))))))))))))))))))))))) rfl (by kernel_rfl) ?_;simp[zb,zc,hw,z8,d1];refine Qa rfl (fun _=> ?_) (fun h=>by simp at h);repeat first|(refine r_ ?_;simp[hw])|refine q_ ?_
   refine Qb (sl':=[(0,.list (l.map pqr)),(3,.vptr 0 0),(5,.i m)]) ?_ (by simp);exact ih m ⟨by omega,zm (by assumption)⟩ (by omega)
  ·have d1:decide (x.1<y.1)=false:=by simpa using c1
   have d2:(x.1==y.1)=true:=by simpa using c2
   have d3:decide (x.2<y.2)=true:=by simpa using c3
   repeat first|(refine r_ ?_;simp)|refine q_ ?_
   refine Qk tOk mixed [] (.val 0 (.val 1 (.val 2 (.val 3 (.val 4 (.val 5 (.val 6 (.val 7 (.val 8 (.val 9 (.val 10 (.val 11 (.val 12 (.val 13 (.val 14 (.val 15 (.val 16 (.val 17 (.val 18 (.val 19 (.val 20 (.val 21 (.val 22 (.val 23 (.val 24 (.val 25 (.val 26 (.val 27 (.val 28 (.val 29 (.val 30 (.val 31 (.val 32 (.val 33 (.val 34 (.done)))))))))))))))))))))))))))))))))))) rfl (by kernel_rfl) ?_;simp[zb,zc,hw,z8,d1,d2,d3];refine Qa rfl (fun _=> ?_) (fun h=>by simp at h);repeat first|(refine r_ ?_;simp[hw])|refine q_ ?_
   refine Qb (sl':=[(0,.list (l.map pqr)),(3,.vptr 0 0),(5,.i m)]) ?_ (by simp);exact ih m ⟨by omega,zm (by assumption)⟩ (by omega)
  ·have d1:decide (x.1<y.1)=false:=by simpa using c1
   have d2:(x.1==y.1)=true:=by simpa using c2
   have d3:decide (x.2<y.2)=false:=by simpa using c3
   have he:=z7 c4;repeat first|(refine r_ ?_;simp)|refine q_ ?_
   refine Qk tOk mixed [] (.val 0 (.val 1 (.val 2 (.val 3 (.val 4 (.val 5 (.val 6 (.val 7 (.val 8 (.val 9 (.val 10 (.val 11 (.val 12 (.val 13 (.val 14 (.val 15 (.val 16 (.val 17 (.val 18 (.val 19 (.val 20 (.val 21 (.val 22 (.val 23 (.val 24 (.val 25 (.val 26 (.val 27 (.val 28 (.val 29 (.val 30 (.val 31 (.val 32 (.val 33 (.val 34 (.done)))))))))))))))))))))))))))))))))))) rfl (by kernel_rfl) ?_;simp[zb,zc,hw,z8,d1,d2,d3];refine Qa rfl (fun h=>by simp at h) (fun _=> ?_);refine Q1 (sl':=[(0,.list (l.map pqr)),(3,.vptr 0 0),(5,.i (m+1:Nat))]) ?_ (by simp);repeat first|(refine r_ ?_;simp[zd,ze])|refine q_ ?_
   rw[if_pos (fun v hv=>by obtain⟨y,_,rfl⟩:=zK.1 hv;rfl)];simp;rw[zf,←z1];have zj:A.length≤1000000:=by rw[z1,yP];omega
   have zk:B.length≤1000000:=by rw[z6,yS];omega
   have zl:(A.map pqr).length=A.length:=by simp
   refine Qf tOk rfl rfl T41 rfl T66 rfl (by decide) (by decide) rfl rfl rfl ?_;simp;refine⟨⟨fun v hv=> ?_,by simp;omega⟩,?_⟩
   ·obtain⟨c',_,rfl⟩:=zK.1 hv;exact⟨rfl,rfl⟩
   repeat first|(refine r_ ?_;simp)|refine q_ ?_
   refine Qf tOk rfl rfl T41 rfl T66 rfl (by decide) (by decide) rfl rfl rfl ?_;simp;refine⟨by simp[Wp]<;>omega,?_⟩;repeat first|(refine r_ ?_;simp[zd,ze])|refine q_ ?_
   rw[if_pos (fun v hv=>by obtain⟨y,_,rfl⟩:=zK.1 hv;rfl)];simp;rw[zg,←z6];refine Qf tOk rfl rfl T41 rfl T66 rfl (by decide) (by decide) rfl rfl rfl ?_;simp;refine⟨⟨fun v hv=> ?_,by simp;omega⟩,?_⟩
   ·obtain⟨c',_,rfl⟩:=zK.1 hv;exact⟨rfl,rfl⟩
   repeat first|(refine r_ ?_;simp)|refine q_ ?_
   refine⟨by omega,?_⟩;rw[zM (by simp;omega),←he];simp[z1,z6,pqr]
  ·have d1:decide (x.1<y.1)=false:=by simpa using c1
   have d2:(x.1==y.1)=false:=by simpa using c2
   have he:=z7 c3;repeat first|(refine r_ ?_;simp)|refine q_ ?_
   refine Qk tOk mixed [] (.val 0 (.val 1 (.val 2 (.val 3 (.val 4 (.val 5 (.val 6 (.val 7 (.val 8 (.val 9 (.val 10 (.val 11 (.val 12 (.val 13 (.val 14 (.val 15 (.val 16 (.val 17 (.val 18 (.val 19 (.val 20 (.val 21 (.val 22 (.val 23 (.val 24 (.val 25 (.val 26 (.val 27 (.val 28 (.val 29 (.val 30 (.val 31 (.val 32 (.val 33 (.val 34 (.done)))))))))))))))))))))))))))))))))))) rfl (by kernel_rfl) ?_;simp[zb,zc,hw,z8,d1,d2];refine Qa rfl (fun h=>by simp at h) (fun _=> ?_);refine Q1 (sl':=[(0,.list (l.map pqr)),(3,.vptr 0 0),(5,.i (m+1:Nat))]) ?_ (by simp);repeat first|(refine r_ ?_;simp[zd,ze])|refine q_ ?_
   rw[if_pos (fun v hv=>by obtain⟨y,_,rfl⟩:=zK.1 hv;rfl)];simp;rw[zf,←z1];have zj:A.length≤1000000:=by rw[z1,yP];omega
   have zk:B.length≤1000000:=by rw[z6,yS];omega
   have zl:(A.map pqr).length=A.length:=by simp
   refine Qf tOk rfl rfl T41 rfl T66 rfl (by decide) (by decide) rfl rfl rfl ?_;simp;refine⟨⟨fun v hv=> ?_,by simp;omega⟩,?_⟩
   ·obtain⟨c',_,rfl⟩:=zK.1 hv;exact⟨rfl,rfl⟩
   repeat first|(refine r_ ?_;simp)|refine q_ ?_
   refine Qf tOk rfl rfl T41 rfl T66 rfl (by decide) (by decide) rfl rfl rfl ?_;simp;refine⟨by simp[Wp]<;>omega,?_⟩;repeat first|(refine r_ ?_;simp[zd,ze])|refine q_ ?_
   rw[if_pos (fun v hv=>by obtain⟨y,_,rfl⟩:=zK.1 hv;rfl)];simp;rw[zg,←z6];refine Qf tOk rfl rfl T41 rfl T66 rfl (by decide) (by decide) rfl rfl rfl ?_;simp;refine⟨⟨fun v hv=> ?_,by simp;omega⟩,?_⟩
   ·obtain⟨c',_,rfl⟩:=zK.1 hv;exact⟨rfl,rfl⟩
   repeat first|(refine r_ ?_;simp)|refine q_ ?_
   refine⟨by omega,?_⟩;rw[zM (by simp;omega),←he];simp[z1,z6,pqr]
end Go.Abs
namespace Go.Abs
open Go Go.Proofs Go.Maps Go.RowKit
theorem Xb{L:List (Int×Int)}{j:Nat}{y:Int×Int}(h:L[j]? =some y)(acc:List (Int×Int)):(L.take (j+1)).foldl adQ acc=adQ ((L.take j).foldl adQ acc) y:=by obtain⟨hj,rfl⟩:=zA.1 h;rw[zJ hj,xP];rfl
theorem y1f(L acc:List (Int×Int)):(L.foldl adQ acc).length≤acc.length+L.length:=by
 induction L generalizing acc with
 |nil=>simp
 |cons x L ih=>
  have:=ih (adQ acc x);have h2:(adQ acc x).length≤acc.length+1:=by unfold adQ;split<;>simp
  rw[yV,yB];omega
attribute [local irreducible] Wg toL
theorem w1g(a b:Aut)(ha:OkA a)(hb:OkA b)(ht:b.types=a.types)(s:Int×Int):PC Tryz.prog 149 [encA a,encA b,pqr s] (fun r=>r=LQp (x0p a b s)):=by
 refine Qh tOk Tryz.func149 rfl Tryz.results149 rfl (by simp[Tryz.ntmps149]) ?_;rw[Tryz.ntmps149];simp only[Qe];simp only[encA,pqr];have zd:=Fm ha hb ht;have ze:∀k (h:k<(Wg a b).length),(w03 a b s)[k]? =some (toL a s.1 (Wg a b)[k],toL b s.2 (Wg a b)[k]):=fun k h=>by unfold w03;simp[R3,h]
 have zm:(w03 a b s).length=(Wg a b).length:=by unfold w03;simp
 have zf:=fun j y (h:(w03 a b s)[j]? =some y)=>Xb h [];have zg:=fun j=>y1f ((w03 a b s).take j) [];unfold x0p;generalize w03 a b s=Y at *
 repeat first|(refine r_ ?_;simp)|refine q_ ?_
 refine Qd rfl rfl (by simp) (Fe a b ha hb ht) rfl ?_;rintro _ rfl;simp;generalize Wg a b=ls at *
 repeat first|(refine r_ ?_;simp)|refine q_ ?_
 refine Q6 8 66 2 rfl ?_;simp;obtain⟨K,hK⟩:∃K,K=[AObj.vars (Qo a),.vars (Qo b),.vars [.i s.1,.i s.2]]:=⟨_,rfl⟩
 have hst:=SL.start K 66 2;refine Qm (Qb (sl':=[(3,.vptr 0 0),(4,.vptr 1 0),(5,.vptr 2 0),(7,.list (ls.map encSy)),(8,.sl 3 2 0 ((Y.take 0).foldl adQ []).length),(9,.i (0:Nat))]) ?_ (by simp));refine Ql (P:=Tryz.prog) (F:=fun(u:Nat×Nat×List AObj)=>⟨[(3,.vptr 0 0),(4,.vptr 1 0),(5,.vptr 2 0),(7,.list (ls.map encSy)),(8,.sl u.2.1 2 0 ((Y.take u.1).foldl adQ []).length),(9,.i u.1)],u.2.2⟩)
  (fun u=>u.1≤ls.length∧SL K u.2.2 u.2.1 66 2 (((Y.take u.1).foldl adQ []).map pqr)) (fun u=>ls.length - u.1) ?_ (0,3,_) ⟨xA _,by rw[hK]at hst ⊢;simpa using hst⟩
 rintro⟨j,q,G⟩ ⟨hj,g⟩ ih;simp only at hj g ih ⊢;have g0:=g.kp (j:=0) (x:= .vars (Qo a)) (by rw[hK];rfl);have g1:=g.kp (j:=1) (x:= .vars (Qo b)) (by rw[hK];rfl);have g2:=g.kp (j:=2) (x:= .vars [.i s.1,.i s.2]) (by rw[hK];rfl);have zc:=zg j;rw[tp,Nat.zero_add,yP]at zc;repeat first|(refine r_ ?_;simp)|refine q_ ?_
 refine Qa rfl (fun zh=> ?_) (fun zi=> ?_)
 ·have z1:j<ls.length:=by simpa using zh
  have hw:IntKind.i64.wrap ((j:Int)+1)=j+1:=wrap_i64 _ (by omega) (by omega);have zj:=zf j _ (ze j z1);have z6:=fun q' G'=>ih (j+1,q',G');simp only[zj]at z6;have z8:(ls.map encSy)[j]? =some (encSy ls[j]):=by simp[z1]
  have za:∀hh,(ls.map encSy)[j]'hh=encSy ls[j]:=fun hh=>by simp
  generalize ls[j]=x at *
  have cT1:=q0p a ha s.1 x;have cT2:=q0p b hb s.2 x;simp only[encSy,encA]at z8 za cT1 cT2;generalize toL a s.1 x=t1 at *;generalize toL b s.2 x=t2 at *;generalize (Y.take j).foldl adQ []=P at *
  have z7:(P.map pqr).length=P.length:=by simp
  have zb:(P.map pqr).take P.length=P.map pqr:=zM (by simp);repeat first|(refine r_ ?_;simp)|refine q_ ?_
  refine G3 (P:=Tryz.prog) tOk mixed [18] (.val 0 (.val 1 (.val 2 (.val 3 (.val 4 (.val 5 (.val 6 (.val 8 (.val 9 (.val 10 (.val 11 (.val 12 (.val 13 (.val 14 (.two 7 (.two 15 (.val 16 (.one 17 (.one 18 (.done)))) 17 (.one 15 (.val 16 (.one 18 (.done))))) 17 (.one 7 (.one 15 (.val 16 (.one 18 (.done)))))))))))))))))))) (fun S'=>S'.hp=G++[.vars [.i t1,.i t2]]∧look S'.sl 3=some (.vptr 0 0)∧look S'.sl 4=some (.vptr 1 0)∧look S'.sl 5=some (.vptr 2 0)∧look S'.sl 7=some (.list (ls.map encSy))∧look S'.sl 8=some (.sl q 2 0 P.length)∧look S'.sl 9=some (.i j)∧look S'.sl 10=some (.vptr G.length 0)) rfl (by kernel_rfl) ?_ ?_
  ·simp[g0,g1,g2,z8,za,z1]
   repeat' (first
    |refine And.intro ?_ ?_
    |(refine Qd rfl rfl (by simp) cT1 rfl ?_;rintro _ rfl;simp[g0,g1,g2,z8,za,z1])
    |(refine Qd rfl rfl (by simp) cT2 rfl ?_;rintro _ rfl;simp[g0,g1,g2,z8,za,z1]))
  rintro⟨sl,E⟩ ⟨rfl,s3,s4,s5,s7,s8,s9,s10⟩;simp only at s3 s4 s5 s7 s8 s9 s10;simp;refine Q1 (sl':=[(3,.vptr 0 0),(4,.vptr 1 0),(5,.vptr 2 0),(7,.list (ls.map encSy)),(8,.sl q 2 0 P.length),(9,.i j),(10,.vptr G.length 0)]) ?_ (by simp[s3,s4,s5,s7,s8,s9,s10]);have gA:=fun M=>Qc g.arr M;repeat first|(refine r_ ?_;simp[gA])|refine q_ ?_
  refine Rn rfl rfl (by first|(simp[gA,zb,z7];done)|(simp[gA,zb,z7];rfl)) (j09 P (t1,t2)) rfl ?_;rintro _ rfl;refine⟨by first|simp|rfl|trivial,?_⟩;simp[gA,zb,z7];by_cases hm:(t1,t2)∈P
  ·rw[Ca hm]at z6;refine Qa rfl (fun h=>by simp[hm]at h) (fun _=> ?_);repeat first|(refine r_ ?_;simp[hw])|refine q_ ?_
   refine Qb (sl':=[(3,.vptr 0 0),(4,.vptr 1 0),(5,.vptr 2 0),(7,.list (ls.map encSy)),(8,.sl q 2 0 P.length),(9,.i (j+1:Nat))]) ?_ (by simp);exact z6 q _ ⟨by omega,g.add _⟩ (by omega)
  ·rw[L5 hm]at z6;refine Qa rfl (fun _=> ?_) (fun h=>by simp[hm]at h);repeat first|(refine r_ ?_;simp)|refine q_ ?_
   refine Qf tOk rfl rfl T41 rfl T66 rfl (by decide) (by decide) rfl rfl rfl ?_;simp[Qc g.arr,Qj g.arr,z7];refine⟨by simp[Wp,Qc g.arr,Qj g.arr,z7]<;>omega,?_⟩;repeat first|(refine r_ ?_;simp[hw])|refine q_ ?_
   refine Qb (sl':=[(3,.vptr 0 0),(4,.vptr 1 0),(5,.vptr 2 0),(7,.list (ls.map encSy)),(8,.sl (G.length+2) 2 0 (P++[(t1,t2)]).length),(9,.i (j+1:Nat))]) ?_ (by simp);have:=z6 (G.length+2) _ ⟨by omega,g.put [AObj.vars [.i t1,.i t2],AObj.arr 66 2 [pqr (t1,t2)]] ((P++[(t1,t2)]).map pqr) rfl⟩ (by omega);simpa[pqr]using this
 ·have zk:j=ls.length:=by simp at zi;omega
  subst zk;have zl:Y.take ls.length=Y:=zM (by omega);rw[zl]at g zc ⊢;have ga:=g.arr;repeat first|(refine r_ ?_;simp[ga])|refine q_ ?_
  rw[zM (by simp)]
end Go.Abs
namespace Go.Abs
open Go Go.Proofs Go.Maps Go.RowKit
structure QInv (a b:Aut) (l:List (Int×Int)):Prop where
 nd:l.Nodup
 rg:∀s∈l,inD a s.1∧inD b s.2
theorem QInv.len{a b:Aut}{l:List (Int×Int)}(h:QInv a b l):l.length≤(a.fin.length+1) * (b.fin.length+1):=by rw[←Pm];exact Ys _ _ h.nd fun x hx=>Ps (h.rg x hx).1 (h.rg x hx).2
theorem QInv.fold{a b:Aut}{l:List (Int×Int)}(h:QInv a b l){Y:List (Int×Int)}(hY:∀s∈Y,inD a s.1∧inD b s.2):QInv a b (Y.foldl adQ l):=
 ⟨N4 Y l h.nd,fun s hs=>((Ut Y l).1 hs).elim (h.rg s) (hY s)⟩
theorem QInv.start{a b:Aut}(ha:OkA a)(hb:OkA b):QInv a b [(0,0)]:=by have:=ha.fin;have:=hb.fin;exact⟨by simp,fun e he=>by rw[zI.1 he];exact⟨.inr ⟨yI _,by simp only;omega⟩,.inr ⟨yI _,by simp only;omega⟩⟩⟩
theorem d1q{a b:Aut}(ha:OkA a)(hb:OkA b)(s:Int×Int):∀t∈x0p a b s,inD a t.1∧inD b t.2:=fun t ht=>by obtain⟨e,he,rfl⟩:=d0n.1 ht;obtain⟨x,_,rfl⟩:=zK.1 he;exact⟨Sw ha _ _,Sw hb _ _⟩
theorem q1j(Y:List (Int×Int)):∀l:List (Int×Int),l.length≤(Y.foldl adQ l).length:=by
 induction Y with
 |nil=>intro l;exact zL _
 |cons y Y ih=>
  intro l;refine yO ?_ (ih (adQ l y));unfold adQ;split
  ·exact zL _
  ·simp
theorem z1i:En []=[]:=by unfold En;simp
theorem y1w(l:List (Int×Int)):(En l).length=l.length:=(List.mergeSort_perm l pLe).length_eq
attribute [local irreducible] Wg toL x0p x0h En
theorem x0t(a b:Aut)(ha:OkA a)(hb:OkA b)(ht:b.types=a.types):PC Tryz.prog 82 [encA a,encA b] (fun r=>r=LQp (En (G6 a b))):=by
 refine Qh tOk Tryz.func82 rfl Tryz.results82 rfl (by simp[Tryz.ntmps82]) ?_;rw[Tryz.ntmps82];simp only[Qe];simp only[encA];have zm:=ha.fin;have zn:=hb.fin;rw[v1i];obtain⟨R,hR⟩:∃R,x0h a b ((a.fin.length+1) * (b.fin.length+1)+1) 0 [(0,0)]=R:=⟨_,rfl⟩
 rw[hR];obtain⟨N,hN⟩:∃N,N=(a.fin.length+1) * (b.fin.length+1):=⟨_,rfl⟩
 have zw:N≤66049:=by rw[hN];exact yO (Nat.mul_le_mul (uA zm.2) (uA zn.2)) (by decide)
 rw[←hN]at hR;have hlen:=fun l (h:QInv a b l)=>h.len;rw[←hN]at hlen;repeat first|(refine r_ ?_;simp)|refine q_ ?_
 refine Qm (Qb (sl':=[(2,.vptr 0 0),(3,.vptr 1 0),(5,.sl 2 2 0 ([(0,0)]:List (Int×Int)).length),(6,.i (0:Nat))]) ?_ (by simp));refine Ql (P:=Tryz.prog) (F:=fun(u:Nat×Nat×List (Int×Int)×List AObj)=>⟨[(2,.vptr 0 0),(3,.vptr 1 0),(5,.sl u.2.1 2 0 u.2.2.1.length),(6,.i u.1)],u.2.2.2⟩)
  (fun u=>u.1≤u.2.2.1.length∧QInv a b u.2.2.1∧u.2.2.2[0]? =some (.vars (Qo a))∧u.2.2.2[1]? =some (.vars (Qo b))∧u.2.2.2[u.2.1]? =some (.arr 66 2 (u.2.2.1.map pqr))∧1<u.2.1∧x0h a b (N+1 - u.1) u.1 u.2.2.1=R) (fun u=>N+1 - u.1) ?_ (0,2,[(0,0)],_) ⟨by simp,QInv.start ha hb,rfl,rfl,rfl,Nat.lt_succ_self 1,hR⟩
 clear hR;rintro⟨n,q,l,G⟩ ⟨hn,hQ,g0,g1,gq,hq,hB⟩ ih;simp only at hn hQ g0 g1 gq hq hB ih ⊢;have zo:=hlen l hQ;repeat first|(refine r_ ?_;simp)|refine q_ ?_
 refine Qa rfl (fun zi=> ?_) (fun zj=> ?_)
 ·have za:n<l.length:=by simpa using zi
  have hw:IntKind.i64.wrap ((n:Int)+1)=n+1:=wrap_i64 _ (by omega) (by omega);rw[show N+1 - n=(N - n)+1 by omega,j0h (zD za)]at hB;have z6:(l.map pqr)[n]? =some (pqr l[n]):=by simp[za]
  have z7:∀hh,(l.map pqr)[n]'hh=pqr l[n]:=fun hh=>by simp
  have zk:=d1q ha hb l[n];have cS:=w1g a b ha hb ht l[n];generalize l[n]=s at *;generalize x0p a b s=Y at *;simp only[pqr,encA]at z6 z7 cS
  repeat first|(refine r_ ?_;simp)|refine q_ ?_
  refine Qk tOk mixed [] (.val 0 (.val 1 (.val 2 (.val 3 (.val 4 (.val 5 (.one 6 (.val 7 (.done))))))))) rfl (by kernel_rfl) ?_;simp[g0,g1,gq,z6,z7,za];refine Qd rfl rfl (by simp) (cS) rfl ?_;rintro _ rfl;simp[g0,g1,gq,z6,z7,za];repeat first|(refine r_ ?_;simp)|refine q_ ?_
  refine Rp 7 rfl (fun zp=> ?_);rw[zV]at zp;refine Qm (Qb (sl':=[(2,.vptr 0 0),(3,.vptr 1 0),(5,.sl q 2 0 ((Y.take 0).foldl adQ l).length),(6,.i n),(7,LQp Y),(8,.i (0:Nat))]) ?_ (by simp));refine Ql (P:=Tryz.prog) (F:=fun(u:Nat×Nat×List AObj)=>⟨[(2,.vptr 0 0),(3,.vptr 1 0),(5,.sl u.2.1 2 0 ((Y.take u.1).foldl adQ l).length),(6,.i n),(7,LQp Y),(8,.i u.1)],u.2.2⟩)
   (fun u=>u.1≤Y.length∧u.2.2[0]? =some (.vars (Qo a))∧u.2.2[1]? =some (.vars (Qo b))∧u.2.2[u.2.1]? =some (.arr 66 2 (((Y.take u.1).foldl adQ l).map pqr))∧1<u.2.1) (fun u=>Y.length - u.1) ?_ (0,q,G) ⟨xA _,g0,g1,by simpa using gq,hq⟩
  clear g0 g1 gq hq z6 z7 zi zo cS;clear G q;rintro⟨j,q,G⟩ ⟨hj,g0,g1,gq,hq⟩ ih2;simp only at hj g0 g1 gq hq ih2 ⊢;have zq:=hlen _ (hQ.fold (Y:=Y.take j) fun s hs=>zk s (List.mem_of_mem_take hs));repeat first|(refine r_ ?_;simp)|refine q_ ?_
  refine Qa rfl (fun zb=> ?_) (fun zc=> ?_)
  ·have z1:j<Y.length:=by simpa using zb
   have ze:IntKind.i64.wrap ((j:Int)+1)=j+1:=wrap_i64 _ (by omega) (by omega);have zr:=Xb (zD z1) l;have z8:=fun q' G'=>ih2 (j+1,q',G');simp only[zr]at z8;have z6:(Y.map pqr)[j]? =some (pqr Y[j]):=by simp[z1]
   have z7:∀hh,(Y.map pqr)[j]'hh=pqr Y[j]:=fun hh=>by simp
   generalize Y[j]=t at *;generalize (Y.take j).foldl adQ l=P at *
   have zd:(P.map pqr).length=P.length:=by simp
   have zf:(P.map pqr).take P.length=P.map pqr:=zM (by simp);simp only[pqr]at z6 z7;repeat first|(refine r_ ?_;simp[z6,z7,z1])|refine q_ ?_
   refine Rn rfl rfl (by first|(simp[gq,zf,zd];done)|(simp[gq,zf,zd];rfl)) (j09 P t) rfl ?_;rintro _ rfl;refine⟨by first|simp|rfl|trivial,?_⟩;simp[gq,zf,zd];by_cases hm:t∈P
   ·rw[Ca hm]at z8;refine Qa rfl (fun h=>by simp[hm]at h) (fun _=> ?_);repeat first|(refine r_ ?_;simp[ze])|refine q_ ?_
    refine Qb (sl':=[(2,.vptr 0 0),(3,.vptr 1 0),(5,.sl q 2 0 P.length),(6,.i n),(7,LQp Y),(8,.i (j+1:Nat))]) ?_ (by simp);exact z8 q G ⟨by omega,g0,g1,gq,hq⟩ (by omega)
   ·rw[L5 hm]at z8;refine Qa rfl (fun _=> ?_) (fun h=>by simp[hm]at h);repeat first|(refine r_ ?_;simp[z6,z7,z1])|refine q_ ?_
    refine Qf tOk rfl rfl T41 rfl T66 rfl (by decide) (by decide) rfl rfl rfl ?_;simp[Qc gq,Qj gq,zd];refine⟨by simp[Wp,Qc gq,Qj gq,zd]<;>omega,?_⟩;repeat first|(refine r_ ?_;simp[ze])|refine q_ ?_
    refine Qb (sl':=[(2,.vptr 0 0),(3,.vptr 1 0),(5,.sl (G.length+1) 2 0 (P++[t]).length),(6,.i n),(7,LQp Y),(8,.i (j+1:Nat))]) ?_ (by simp);refine z8 (G.length+1) _ ⟨by omega,Qc (Qg (by omega) g0 _) _,Qc (Qg (by omega) g1 _) _,?_,by have:=Qi gq;omega⟩ (by omega);rw[zC (by simp)];simp[pqr]
  ·have zg:j=Y.length:=by simp at zc;omega
   subst zg;rw[zZ]at gq zq ⊢;have zt:=q1j Y l;have zu:=hQ.fold zk;repeat first|(refine r_ ?_;simp[hw])|refine q_ ?_
   refine Qb (sl':=[(2,.vptr 0 0),(3,.vptr 1 0),(5,.sl q 2 0 (Y.foldl adQ l).length),(6,.i (n+1:Nat))]) ?_ (by simp);exact ih (n+1,q,Y.foldl adQ l,G) ⟨by simp only;omega,zu,g0,g1,gq,hq,by rw[show N+1 - (n+1)=N - n by omega];exact hB⟩ (by simp only;omega)
 ·have zh:l.length≤n:=by simp at zj;omega
  rw[g01 (by rw[List.getElem?_eq_none_iff];omega)]at hB;subst hB;clear ih;refine Ei q gq ?_;simp[AV.fz];rw[zM (by simp)];repeat first|(refine r_ ?_;simp)|refine q_ ?_
  refine Bl 9 rfl (by simp) ?_;simp;refine Qm (Qb (sl':=[(5,LQp l),(9,LQp (En (l.take 0))),(10,.i (0:Nat))]) ?_ (by simp[z1i]));refine Ql (P:=Tryz.prog) (F:=fun(u:Nat×List AObj)=>⟨[(5,LQp l),(9,LQp (En (l.take u.1))),(10,.i u.1)],u.2⟩)
   (fun u=>u.1≤l.length) (fun u=>l.length - u.1) ?_ (0,_) (xA _)
  clear g0 g1 gq hq hn zj zh;rintro⟨j,G⟩ hj ih;simp only at hj ih ⊢;repeat first|(refine r_ ?_;simp)|refine q_ ?_
  refine Qa rfl (fun zb=> ?_) (fun zc=> ?_)
  ·have z1:j<l.length:=by simpa using zb
   have ze:IntKind.i64.wrap ((j:Int)+1)=j+1:=wrap_i64 _ (by omega) (by omega);have hst:=j0s hQ.nd z1;have zl:(l.take (j+1)).Nodup:=hQ.nd.sublist (vJ _ _);have zv:l[j]∉l.take j:=fun hm=>by rw[zJ z1,vP]at zl;exact zl.2.2 _ hm _ (zI.2 rfl) rfl
   have cI:=q08 (En (l.take j)) l[j] (Tj (hQ.nd.sublist (vJ _ _))) (fun hm=>zv (W5.1 hm)) (by rw[y1w,yP];omega);rw[hst]at cI;have z6:(l.map pqr)[j]? =some (pqr l[j]):=by simp[z1]
   have z7:∀hh,(l.map pqr)[j]'hh=pqr l[j]:=fun hh=>by simp
   generalize l[j]=t at *;simp only[pqr]at z6 z7 cI
   repeat first|(refine r_ ?_;simp[z6,z7,z1])|refine q_ ?_
   refine Qd rfl rfl (by simp) (cI) rfl ?_;rintro _ rfl;simp;repeat first|(refine r_ ?_;simp[ze])|refine q_ ?_
   refine Qb (sl':=[(5,LQp l),(9,LQp (En (l.take (j+1)))),(10,.i (j+1:Nat))]) ?_ (by simp);exact ih (j+1,G) (by simp only;omega) (by simp only;omega)
  ·have zg:j=l.length:=by simp at zc;omega
   subst zg;rw[zZ];repeat first|(refine r_ ?_;simp)|refine q_ ?_
end Go.Abs
namespace Go.Abs
open Go Go.Proofs Go.Maps Go.RowKit
attribute [simp] T43
theorem q1l(a b:Aut):PC Tryz.prog 40 [encA a,encA b] (fun r=>r= .i (Es a b)):=by
 refine Qh tOk Tryz.func40 rfl Tryz.results40 rfl (by simp[Tryz.ntmps40]) ?_;rw[Tryz.ntmps40];simp only[Qe];have cA:=Sl a;have cB:=Sl b;simp only[encA]at cA cB ⊢;obtain⟨R,hR⟩:∃R,Es a b=R:=⟨_,rfl⟩
 rw[hR];unfold Es at hR;repeat first|(refine r_ ?_;simp)|refine q_ ?_
 refine Qd rfl rfl (by simp) (cA) rfl ?_;rintro _ rfl;simp;repeat first|(refine r_ ?_;simp)|refine q_ ?_
 refine Qa rfl (fun h=> ?_) (fun h=> ?_)
 ·rw[if_pos (by simpa using h)]at hR;repeat first|(refine r_ ?_;simp)|refine q_ ?_
  exact hR
 rw[if_neg (by simpa using h)]at hR;repeat first|(refine r_ ?_;simp)|refine q_ ?_
 refine Qd rfl rfl (by simp) (cB) rfl ?_;rintro _ rfl;simp;repeat first|(refine r_ ?_;simp)|refine q_ ?_
 refine Qa rfl (fun h2=> ?_) (fun h2=> ?_)
 ·rw[if_pos (by simpa using h2)]at hR;repeat first|(refine r_ ?_;simp)|refine q_ ?_
  exact hR
 rw[if_neg (by simpa using h2)]at hR;repeat first|(refine r_ ?_;simp)|refine q_ ?_
 refine Qa rfl (fun h3=> ?_) (fun h3=> ?_)
 ·rw[if_pos (by simpa using h3)]at hR;subst hR;repeat first|(refine r_ ?_;simp)|refine q_ ?_
 ·rw[if_neg (by simpa using h3)]at hR;subst hR;repeat first|(refine r_ ?_;simp)|refine q_ ?_
attribute [local irreducible] Es Tl
theorem q1m(a b:Aut):PC Tryz.prog 80 [encA a,encA b] (fun r=>r= .i (E5 a b)):=by
 refine Qh tOk Tryz.func80 rfl Tryz.results80 rfl (by simp[Tryz.ntmps80]) ?_;rw[Tryz.ntmps80];simp only[Qe];have cB:=q1l a b;have cF:=N1 a;have cG:=N1 b;simp only[encA]at cB cF cG ⊢;obtain⟨R,hR⟩:∃R,E5 a b=R:=⟨_,rfl⟩
 rw[hR];unfold E5 at hR;repeat first|(refine r_ ?_;simp)|refine q_ ?_
 refine Qd rfl rfl (by simp) (cB) rfl ?_;rintro _ rfl;simp;repeat first|(refine r_ ?_;simp)|refine q_ ?_
 refine Qa rfl (fun h=> ?_) (fun h=> ?_)
 ·have h':Es a b≠0:=by simpa using h
  rw[if_pos h']at hR;repeat first|(refine r_ ?_;simp)|refine q_ ?_
  exact hR
 have h':¬Es a b≠0:=by simpa using h
 rw[if_neg h']at hR;repeat first|(refine r_ ?_;simp)|refine q_ ?_
 by_cases h1:Tl a=0
 ·refine Qd rfl rfl (by simp) (cF) rfl ?_;rintro _ rfl;simp[h1];by_cases h2:Tl b=0
  ·rw[if_neg (by simp[h1,h2])]at hR;subst hR;refine Qd rfl rfl (by simp) (cG) rfl ?_;rintro _ rfl;simp[h2];repeat first|(refine r_ ?_;simp[h2])|refine q_ ?_
   refine Qa rfl (fun h=>by simp at h) (fun _=> ?_);repeat first|(refine r_ ?_;simp)|refine q_ ?_
  ·rw[if_pos (.inr h2)]at hR;subst hR;have z1:(Tl b != 0)=true:=by simpa using h2
   refine Qd rfl rfl (by simp) (cG) rfl ?_;rintro _ rfl;simp[z1];repeat first|(refine r_ ?_;simp[z1])|refine q_ ?_
   refine Qa rfl (fun _=> ?_) (fun h=>by simp at h);repeat first|(refine r_ ?_;simp)|refine q_ ?_
 ·rw[if_pos (.inl h1)]at hR;subst hR;have z6:(Tl a != 0)=true:=by simpa using h1
  refine Qd rfl rfl (by simp) (cF) rfl ?_;rintro _ rfl;simp[z6];refine Q5 rfl rfl ?_;simp;repeat first|(refine r_ ?_;simp[z6])|refine q_ ?_
  refine Qa rfl (fun _=> ?_) (fun h=>by simp at h);repeat first|(refine r_ ?_;simp)|refine q_ ?_
def x22(a b:Aut)(l:List (Int×Int))(s:Int×Int):Bool:=X7 a b s && (x0p a b s).all fun t=>decide (t∈l)
theorem q0h{α:Type}{p:α→Bool}{l:List α}{j:Nat}(h:j<l.length)(h1:(l.take j).all p=true):(l.take (j+1)).all p=p l[j]:=by rw[zJ h,List.all_append,h1];simp
theorem all_false{α:Type}{p:α→Bool}{l:List α}{j:Nat}(h:j<l.length)(h1:p l[j]=false):l.all p=false:=by rw[List.all_eq_false];exact⟨_,zG h,by rw[h1];simp⟩
attribute [local irreducible] x0p X7
def Cb(x:EqC):AV:= .agg [.i x.verdict,LQp x.pairs,LSy x.word]
def q1o(a b:Aut)(x:EqC):Int:=if 2048<x.pairs.length∨4096<x.word.length then 5 else if x.pairs.all (fun s=>decide (inS a s.1∧inS b s.2))=false then 6 else Vv a.types x.word
theorem d00(n:Nat)(z:Int):(z<0∧¬(0≤z∧z<(n:Int)))∨(¬z<0∧(n:Int)≤z∧¬(0≤z∧z<(n:Int)))∨(¬z<0∧¬(n:Int)≤z∧(0≤z∧z<(n:Int))):=by omega
attribute [local irreducible] Ga
end Go.Abs
namespace Go.Abs
open Go Go.Proofs
def z2u(n:Nat)(l:List Int):Prop:=(Wt n).filter (fun z=>decide (z∈l))=l
def q2i(n:Nat)(l:List Int):List AV:=c1b n fun z=>decide (z∈l)
def y21(n:Nat)(l m:List Int):Bool:=decide (∀i:Nat,i<n→decide ((i:Int)∈l)=decide ((i:Int)∈m))
abbrev SQ:=SS×List Sy
structure SInv (na nb:Nat) (P Q:List (List Int)) (L:List SQ):Prop where
 nd:(L.map (·.1)).Nodup
 mem:∀e∈L,e.1∈Hu P Q
 can:∀e∈L,z2u na e.1.1∧z2u nb e.1.2
structure SPQ (a b:Aut) (P Q:List (List Int)):Prop where
 lim:(P.length+1) * (Q.length+1)≤66049
 fst:(([0]:List Int),([0]:List Int))∈Hu P Q
 step:∀s∈Hu P Q,∀x,Ww a x→Cl a b s x∈Hu P Q
end Go.Abs
namespace Go.Abs
open Go Go.Proofs Go.Maps Go.RowKit
attribute [simp] x2w x2v
def y2w(na nb:Nat)(e:SQ):AV:= .agg [.list (q2i na e.1.1),.list (q2i nb e.1.2),.list (e.2.map encSy)]
attribute [local irreducible] q2i
attribute [local irreducible] Es Rz
end Go.Abs
namespace Go.Abs
open Go Go.Proofs Go.Maps Go.RowKit
def WL(L:List SQ):Prop:=∀(i:Nat) (e:SQ),L[i]? =some e→e.2.length≤i
def wnE(either:Bool):Bool→Bool→Bool:=if either then neB else x1l
attribute [local irreducible] Wg Q0 S9 W3 Vk Iu q2i wnE y1v
end Go.Abs
namespace Go.Abs
open Go Go.Proofs Go.Maps Go.RowKit
def u1y(lo hi:Int):Prd:=[[⟨lo,hi⟩]]
def exA:Aut:=⟨1,[false,false,true],[⟨0,0,u1y (-1099511627776) 1099511627776⟩,⟨0,1,u1y 5 1099511627776⟩,⟨1,2,u1y (-1099511627776) 7⟩]⟩
def y22(l:List Int):List Sy:=l.map fun n=>⟨0,n⟩
def y2e(a:Aut)(w:List Sy):Bool:=x0n a && decide (w.length≤12) && (d0e a w).2==0
end Go.Abs
namespace Go.Abs
open Go Go.Proofs Go.Maps Go.RowKit
end Go.Abs
namespace Go.Abs
open Go Go.Proofs Go.Maps Go.RowKit
def j1s(a b:Aut):EqC×Int:=if E5 a b≠0 then(j1p,E5 a b)else match (Om a b 0 0).1 with
 |some w=>(⟨2,[],w⟩,0)
 |none=>(⟨1,En (G6 a b),[]⟩,0)
def x2l(a b:Aut):(List Sy×Bool)×Int:=if Th a b≠0 then(([],false),Th a b)else match (y1v a b x1l).1 with
 |some w=>((w,false),0)
 |none=>(([],true),0)
def y2v(a b:Aut):(List Sy×Bool)×Int:=if Th a b≠0 then(([],false),Th a b)else match (y1v a b neB).1 with
 |some w=>((w,true),0)
 |none=>(([],false),0)
def y15(r:EqC×Int):AV:= .tup [Cb r.1,.i r.2]
def y2d(r:(List Sy×Bool)×Int):AV:= .tup [LSy r.1.1,.bool r.1.2,.i r.2]
attribute [local irreducible] E5 Om En G6 Es Th y1v Rz
theorem z04(a b:Aut):PC Tryz.prog 29 [encA a,encA b] (fun r=>r=y15 (j1s a b)):=by
 refine Qh tOk Tryz.func29 rfl Tryz.results29 rfl (by simp[Tryz.ntmps29]) ?_;rw[Tryz.ntmps29];simp only[Qe];obtain⟨R,hR⟩:∃R,j1s a b=R:=⟨_,rfl⟩
 rw[hR];unfold j1s at hR;have cF:=q1m a b;have z1:E5 a b=0→Dfa a∧Dfa b∧b.types=a.types:=fun h=>T0.1 h;simp only[encA]at cF ⊢;repeat first|(refine r_ ?_;simp)|refine q_ ?_
 refine Qd rfl rfl (by simp) (cF) rfl ?_;rintro _ rfl;simp;repeat first|(refine r_ ?_;simp)|refine q_ ?_
 refine Qa rfl (fun h=> ?_) (fun h=> ?_)
 ·have h':E5 a b≠0:=by simpa using h
  rw[if_pos h']at hR;subst hR;repeat first|(refine r_ ?_;simp)|refine q_ ?_
  rfl
 have h':E5 a b=0:=by simpa using h
 rw[if_neg (fun k=>k h')]at hR;obtain⟨ha,hb,ht⟩:=z1 h';have cP:=y0b a b ha hb ht 0 0 ha.zero hb.zero;have cQ:=x0t a b ha.ok hb.ok ht;simp only[encA]at cP cQ;repeat first|(refine r_ ?_;simp)|refine q_ ?_
 cases hp:(Om a b 0 0).1 with
 |some w=>
  rw[hp]at hR cP;simp only at hR;subst hR;refine Qd rfl rfl (by simp) (cP) rfl ?_;rintro _ rfl;simp[k1g];repeat first|(refine r_ ?_;simp)|refine q_ ?_
  refine Qa rfl (fun _=> ?_) (fun h=>by simp at h);repeat first|(refine r_ ?_;simp)|refine q_ ?_
  rfl
 |none=>
  rw[hp]at hR cP;simp only at hR;subst hR;refine Qd rfl rfl (by simp) (cP) rfl ?_;rintro _ rfl;simp[k1g];repeat first|(refine r_ ?_;simp)|refine q_ ?_
  refine Qa rfl (fun h=>by simp at h) (fun _=> ?_);repeat first|(refine r_ ?_;simp)|refine q_ ?_
  refine Qd rfl rfl (by simp) (cQ) rfl ?_;rintro _ rfl;simp;repeat first|(refine r_ ?_;simp)|refine q_ ?_
  rfl
end Go.Abs
namespace Go.Abs
open Go Go.Proofs Go.Maps Go.RowKit
theorem j14(a b a' b':Int):eqA T 9 52 (.agg [.int .i64 a,.int .i64 b]) (.agg [.int .i64 a',.int .i64 b'])=some (a==a' && b==b'):=by simp[eqA,Y0,Ay,TI.agg]
theorem v1u{a b:List Sy}{j:Nat}(h1:j<a.length)(h2:j<b.length)(h:a.take j=b.take j)(e:a[j]=b[j]):a.take (j+1)=b.take (j+1):=by rw[zJ h1,zJ h2,h,e]
theorem Jm(a b:List Sy):PC Tryz.prog 26 [LSy a,LSy b] (fun r=>r= .bool (decide (a=b))):=by
 refine Qh tOk Tryz.func26 rfl Tryz.results26 rfl (by simp[Tryz.ntmps26]) ?_;rw[Tryz.ntmps26];simp only[Qe];refine Rp 0 rfl (fun hlen=> ?_);rw[zV]at hlen;repeat first|(refine r_ ?_;simp)|refine q_ ?_
 refine Qa rfl (fun h=> ?_) (fun h1=> ?_)
 ·repeat first|(refine r_ ?_;simp)|refine q_ ?_
  rintro rfl;simp at h
 have hl:a.length=b.length:=by simp at h1;omega
 repeat first|(refine r_ ?_;simp)|refine q_ ?_
 refine Qt a.length (fun j=>a.take j=b.take j) (fun j=>[(0,LSy a),(1,LSy b),(12,.i a.length),(13,.i j)]) (fun _=>[]) rfl (by simp) (by simp) (by simp) (by simp) (by simp) ?_;intro j hj hI ih;repeat first|(refine r_ ?_;simp)|refine q_ ?_
 refine Qa rfl (fun z8=> ?_) (fun za=> ?_)
 ·have z1:j<a.length:=by simpa using z8
  have z6:j<b.length:=by omega
  repeat first|(refine r_ ?_;simp)|refine q_ ?_
  refine Qk tOk mixed [] (.val 0 (.val 1 (.val 2 (.val 3 (.val 4 (.val 5 (.val 6 (.val 7 (.val 8 (.done)))))))))) rfl (by kernel_rfl) ?_;simp[z1,z6,j14];refine Qa rfl (fun h=> ?_) (fun h=> ?_)
  ·repeat first|(refine r_ ?_;simp)|refine q_ ?_
   rintro rfl;simp at h
  ·repeat first|(refine r_ ?_;simp)|refine q_ ?_
   have he:a[j]=b[j]:=by
    have h2:a[j].ty=b[j].ty∧a[j].num=b[j].num:=by simpa using h
    cases ha:a[j];cases hb:b[j];rw[ha,hb]at h2;simp only at h2;rw[h2.1,h2.2]
   refine Qq _ (ih z1 (v1u z1 z6 hI he)) rfl (by simp) ?_ (by simp) (by simp);simp;exact wrap_i64 _ (by omega) (by omega)
 ·have z7:j=a.length:=by simp at za;omega
  subst z7;repeat first|(refine r_ ?_;simp)|refine q_ ?_
  rw[zM (zL _),zM (by omega)]at hI;exact hI
end Go.Abs
namespace Go.Abs
open Go Go.Proofs Go.Maps Go.RowKit
theorem Lw(lo hi:Int):PC Tryz.prog 145 [.i lo,.i hi] (fun r=>r=encP [[⟨lo,hi⟩]]):=by refine Qh tOk Tryz.func145 rfl Tryz.results145 rfl (by simp[Tryz.ntmps145]) ?_;rw[Tryz.ntmps145];simp only[Qe];refine Et (Rb tOk rfl ?_);simp;refine Et (Rb tOk rfl ?_);simp;refine Fh 1 (e:=144) (c:=2) (xs:=[encIv ⟨lo,hi⟩]) rfl 2 (o0:= .va 145 1 [.sl 1 2 0 1]) rfl (by decide) rfl ?_;simp[AObj.fz,AV.fz];refine Pt 2 rfl (by simp[AV.cells,AV.pure]) ?_;simp;refine Ws 2 (e:=145) (c:=1) (xs:=[encL [⟨lo,hi⟩]]) rfl 0 rfl ?_;simp;repeat first|(refine r_ ?_;simp)|refine q_ ?_
theorem Bn:PC Tryz.prog 79 [] (fun r=>r= .tup [encA exQ,encA exR]):=by
 refine Qh tOk Tryz.func79 rfl Tryz.results79 rfl (by simp[Tryz.ntmps79]) ?_;rw[Tryz.ntmps79];simp only[Qe];have z1:yD 2=[0,1]:=rfl;have z6:yD 4=[0,1,2,3]:=rfl;repeat first|(refine r_ ?_;simp[z1,z6])|refine q_ ?_
 refine Qd rfl rfl (by simp) (Lw (-1099511627776) 1099511627776) rfl ?_;rintro _ rfl;simp[z1,z6];refine Qd rfl rfl (by simp) (Lw (-1099511627776) 4) rfl ?_;rintro _ rfl;simp[z1,z6];refine Qd rfl rfl (by simp) (Lw 5 1099511627776) rfl ?_;rintro _ rfl;simp[z1,z6];repeat first|(refine r_ ?_;simp[z1,z6])|refine q_ ?_
 refine Q1 (sl':=[(0,.vptr 0 0),(1,.vptr 1 0),(5,.vptr 7 0),(6,.vptr 10 0)]) ?_ (by simp);refine Ws 5 (e:=4) (c:=1) (xs:=[.bool false,.bool true]) rfl 7 rfl ?_;simp;refine Ws 8 (e:=4) (c:=1) (xs:=[.bool false,.bool true]) rfl 10 rfl ?_;simp;refine Ws 6 (e:=73) (c:=3) (xs:=exQ.mv.map encMv) rfl 7 rfl ?_;have z7:exQ.mv.length=2:=rfl;have z8:exR.mv.length=4:=rfl;simp[z7];refine Ws 9 (e:=73) (c:=3) (xs:=exR.mv.map encMv) rfl 10 rfl ?_;simp[z8];rw[zM (by simp[z7]),zM (by simp[z8])];refine Gb tOk mixed [2,3] (.val 0 (.two 1 (.one 2 (.one 3 (.done))) 2 (.val 1 (.one 3 (.done))))) rfl (by kernel_rfl) ?_;simp;repeat first|(refine r_ ?_;simp)|refine q_ ?_
 exact⟨⟨rfl,rfl⟩,rfl,rfl⟩
end Go.Abs
namespace Go.Abs
open Go Go.Proofs Go.Maps Go.RowKit
attribute [simp] k1z z2s y2h
theorem M0:(Tryz.prog).underlying 66=some (.array 2 3):=by kernel_rfl
theorem x1z:(Tryz.prog).underlying 3=some (.int .i64):=by kernel_rfl
theorem q00:(Tryz.prog).cellsOf 66=2:=by kernel_rfl
theorem v0g:(Tryz.prog).cellsOf 3=1:=by kernel_rfl
theorem k16:(Tryz.prog).keyType 66=true:=by kernel_rfl
theorem v1x:laidOutB Tryz.prog=true:=by kernel_rfl
theorem v1j:(Tryz.prog).keyTypeAt 3 66=true:=by kernel_rfl
theorem y1t:66<(Tryz.prog).types.size:=of_decide_eq_true (by kernel_rfl)
theorem F7:Keyed Tryz.prog 66:=Keyed.of_law (deep_law_laid v1x (m:=3) (by decide) y1t v1j (by rw[M0]))
def okQ(s:Int×Int):Prop:=(-1≤s.1∧s.1≤1000000)∧(-1≤s.2∧s.2≤1000000)
theorem u1m{s t:Int×Int}(h:pqr s=pqr t):s=t:=by unfold pqr at h;simp at h;exact tg h.1 h.2
theorem u1t{z:Int}(h: -1≤z∧z≤1000000):(Lit.int .i64 z).wf=true:=by
 have h1:IntKind.i64.min= -9223372036854775808:=by decide
 have h2:IntKind.i64.max=9223372036854775807:=by decide
 simp only[Lit.wf,h1,h2,Bool.and_eq_true,decide_eq_true_eq];omega
theorem g0f(d:Nat){z:Int}(h: -1≤z∧z≤1000000):(Tryz.prog).keyLits (d+1) 3 [.int .i64 z]=some [.int .i64 z]:=by unfold Program.keyLits;rw[x1z];simp[u1t h]
theorem f1u(d:Nat){s:Int×Int}(h:okQ s):(Tryz.prog).keyLits (d+2) 66 [.int .i64 s.1,.int .i64 s.2]=some [.int .i64 s.1,.int .i64 s.2]:=by unfold Program.keyLits;rw[M0];simp only[q00,v0g,yB,tp,if_true];have h1:=g0f d h.1;have h2:=g0f d h.2;simp[wZ,h1,h2]
theorem Im{s:Int×Int}(h:okQ s):isKey Tryz.prog 66 (pqr s):=by
 refine⟨.agg #[.int .i64 s.1,.int .i64 s.2],.string (keyBytes [.int .i64 s.1,.int .i64 s.2]),rfl,?_⟩;obtain⟨d,hd⟩:∃d,(Tryz.prog).types.size+1=d+2:=⟨(Tryz.prog).types.size - 1,by have:=y1t;omega⟩
 unfold keyOf;rw[M0];simp only;have hf:Value.formed Tryz.prog 66 (.agg #[.int .i64 s.1,.int .i64 s.2])=true:=by unfold Value.formed;rw[M0,q00];rfl
 rw[k16,hf,hd];have:(Value.agg #[.int .i64 s.1,.int .i64 s.2]).cells.toList=[.int .i64 s.1,.int .i64 s.2]:=rfl;rw[this,f1u d h];rfl
def kvQ(l:List (Int×Int)):List (AV×AV):=l.map fun s=>(pqr s,.bool true)
def stQ(l:List (Int×Int)):AObj:= .mp (kvQ l)
theorem Zj{l:List (Int×Int)}(h:∀s∈l,okQ s):∀p∈kvQ l,isKey Tryz.prog 66 p.1:=fun p hp=>by obtain⟨e,he,rfl⟩:=zK.1 hp;exact Im (h e he)
theorem Lv{l:List (Int×Int)}{j:Nat}{p:AV×AV}{s:Int×Int}(hp:(kvQ l)[j]? =some p)(he:p.1=pqr s):s∈l∧p.2= .bool true:=by unfold kvQ at hp;rw[zQ]at hp;obtain⟨m,hm,rfl⟩:=zN.1 hp;have z1:m=s:=u1m he;exact⟨by rw[←z1];exact List.mem_of_getElem? hm,rfl⟩
section
variable {nt k:Nat} {S:AS} {ops:Array Oper} {o:Oper} {R:AS→Prop}
theorem B5 {wr:Bool} (hw:Q4 ops S o=some true) (hd:W1 nt o=true) {x ix:Operand} (ho:o.op= .lookup 174 x ix false) {id:Nat} (hx:rho S.sl x=some (.mref id)) {s:Int×Int} (z1:rho S.sl ix=some (.agg [.i s.1,.i s.2]))
  {l:List (Int×Int)} (z6:S.hp[id]? =some (stQ l)) (hl:∀m∈l,okQ m) (hn:okQ s) (hR:R (S.putD o.dst (.bool (decide (s∈l))))):Wl Tryz.prog nt k wr ops o S R:=by
 refine Sx tOk hw hd ho k1z rfl T4 F7 hx z1 z6 (Im hn) (Zj hl) (z:= .bool false) rfl (fun j p hp he=> ?_) (fun z7=> ?_)
 ·obtain⟨h1,h2⟩:=Lv hp he;rw[decide_eq_true h1]at hR;rw[h2];exact hR
 ·rw[decide_eq_false (fun h=>z7 (pqr s,.bool true) (zK.2 ⟨s,h,rfl⟩) rfl)]at hR;exact hR
theorem De {wr:Bool} (hw:Q4 ops S o=some true) (hd:W1 nt o=true) {x ix:Operand} (ho:o.op= .lookup 174 x ix false) {id:Nat} (hx:rho S.sl x=some (.mref id)) {s:Int×Int} (z1:rho S.sl ix=some (.agg [.i s.1,.i s.2]))
  {l:List (Int×Int)} (z6:S.hp[id]? =some (.fm (kvQ l))) (hl:∀m∈l,okQ m) (hn:okQ s) (hR:R (S.putD o.dst (.bool (decide (s∈l))))):Wl Tryz.prog nt k wr ops o S R:=by
 refine K7 tOk hw hd ho k1z rfl T4 F7 hx z1 z6 (Im hn) (Zj hl) (z:= .bool false) rfl (fun j p hp he=> ?_) (fun z7=> ?_)
 ·obtain⟨h1,h2⟩:=Lv hp he;rw[decide_eq_true h1]at hR;rw[h2];exact hR
 ·rw[decide_eq_false (fun h=>z7 (pqr s,.bool true) (zK.2 ⟨s,h,rfl⟩) rfl)]at hR;exact hR
theorem Kd (hw:Q4 ops S o=some true) (hd:W1 nt o=true) {x ix y:Operand} (ho:o.op= .mapUpdate 174 x ix y) {id:Nat} (hx:rho S.sl x=some (.mref id)) {s:Int×Int} (z1:rho S.sl ix=some (.agg [.i s.1,.i s.2])) (hy:rho S.sl y=some (.bool true))
  {l:List (Int×Int)} (z6:S.hp[id]? =some (stQ l)) (hl:∀m∈l,okQ m) (hn:okQ s) (z7:s∉l) (hR:R (({ S with hp:=S.hp.set id (stQ (l++[s])) }:AS).putD o.dst (.tup []))):Wl Tryz.prog nt k true ops o S R:=by
 refine Rv tOk hw hd ho k1z rfl F7 hx z1 hy (by simp[AV.pure]) z6 (Im hn) (Zj hl) (fun j p hp he=> ?_) (fun z8=> ?_)
 ·exact absurd (Lv hp he).1 z7
 ·have:kvQ l++[(pqr s,.bool true)]=kvQ (l++[s]):=by simp[kvQ]
  unfold stQ at hR;rw[←this]at hR;exact hR
theorem B0 (hw:Q4 ops S o=some true) (hd:W1 nt o=true) {x ix y:Operand} (ho:o.op= .mapUpdate 174 x ix y) {id:Nat} (hx:rho S.sl x=some (.mref id)) {s:Int×Int} (z1:rho S.sl ix=some (.agg [.i s.1,.i s.2])) (hy:rho S.sl y=some (.bool true))
  {l:List (Int×Int)} (z6:S.hp[id]? =some (stQ l)) (hl:∀m∈l,okQ m) (hn:okQ s) (hR:R (({ S with hp:=S.hp.set id (stQ (adQ l s)) }:AS).putD o.dst (.tup []))):Wl Tryz.prog nt k true ops o S R:=by
 by_cases hm:s∈l
 ·rw[Ca hm]at hR;refine Rv tOk hw hd ho k1z rfl F7 hx z1 hy (by simp[AV.pure]) z6 (Im hn) (Zj hl) (fun j p hp he=> ?_) (fun z7=> ?_)
  ·obtain⟨h1,h2⟩:=Lv hp he;have:(kvQ l).set j (pqr s,.bool true)=kvQ l:=by
    refine xD fun i=> ?_;by_cases hi:i=j
    ·subst hi;rw[zH (zA.1 hp).1,hp]
     congr 1
     exact tg he.symm h2.symm
    ·rw[zB (Ne.symm hi)]
   unfold stQ at hR;rw[←this]at hR;exact hR
  ·exact absurd rfl (z7 (pqr s,.bool true) (zK.2 ⟨s,hm,rfl⟩))
 ·rw[L5 hm]at hR;exact Kd hw hd ho hx z1 hy z6 hl hn hm hR
theorem y0z (hw:Q4 ops S o=some true) (hd:W1 nt o=true) {x ix y:Operand} (ho:o.op= .insert 174 x ix y) {id:Nat} (hx:rho S.sl x=some (.mref id)) {s:Int×Int} (z1:rho S.sl ix=some (.agg [.i s.1,.i s.2])) (hy:rho S.sl y=some (.bool true))
  (z6:S.hp[id]? =some (.mp [])) (hn:okQ s) (hR:R (({ S with hp:=S.hp.set id (stQ [s]) }:AS).putD o.dst (.tup []))):Wl Tryz.prog nt k true ops o S R:=by
 refine S7 tOk hw hd ho k1z rfl F7 hx z1 hy (by simp[AV.pure]) z6 (Im hn) (fun p hp=>by cases hp) (fun j p hp he=>by cases hp) (fun z7=> ?_);exact hR
end
def z1x(xs ys:List Sy)(i:Nat):Prop:=ys.length=xs.length∧∀p,p<xs.length→ys[p]? =if p<i∨xs.length - i≤p then xs[xs.length - 1 - p]? else xs[p]?
theorem z1x.done{xs ys:List Sy}{i:Nat}(h:z1x xs ys i)(hi:xs.length≤2 * i+1):ys=xs.reverse:=by
 refine xD fun p=> ?_;by_cases hp:p<xs.length
 ·rw[h.2 p hp,List.getElem?_reverse hp];split
  ·rfl
  ·rename_i hn
   congr 1;omega
 ·rw[x_ (by rw[h.1];omega),x_ (by simp;omega)]
theorem z1x.start(xs:List Sy):z1x xs xs 0:=⟨rfl,fun p hp=>by rw[if_neg (by omega)]⟩
theorem z1x.step{xs ys:List Sy}{i:Nat}(h:z1x xs ys i)(hi:2 * i+1<xs.length){x y:Sy}(hx:ys[i]? =some x)(hy:ys[xs.length - 1 - i]? =some y):z1x xs ((ys.set i y).set (xs.length - 1 - i) x) (i+1):=by
 refine⟨by simp[h.1],fun p hp=> ?_⟩;have h1:=h.2 i (by omega);rw[if_neg (by omega),hx]at h1;have h2:=h.2 (xs.length - 1 - i) (by omega);rw[if_neg (by omega),hy]at h2;by_cases e1:p=xs.length - 1 - i
 ·subst e1;rw[zH (by simp[h.1];omega),if_pos (by omega),show xs.length - 1 - (xs.length - 1 - i)=i by omega];exact h1
 ·rw[zB (Ne.symm e1)];by_cases e2:p=i
  ·subst e2;rw[zH (by rw[h.1];omega),if_pos (by omega)];exact h2
  ·rw[zB (Ne.symm e2),h.2 p hp];by_cases e3:p<i∨xs.length - i≤p
   ·rw[if_pos e3,if_pos (by omega)]
   ·rw[if_neg e3,if_neg (by omega)]
theorem Ct(H:List AObj)(p:Nat)(xs:List Sy)(hp:H[p]? =some (.arr 52 2 (xs.map encSy)))(hl:xs.length≤1000000):FC Tryz.prog 189 [.sl p 2 0 xs.length] H (fun r H'=>r= .tup []∧H'=H.set p (.arr 52 2 (xs.reverse.map encSy))):=by
 refine Eg tOk Tryz.func189 rfl Tryz.results189 rfl (by simp[Tryz.ntmps189]) ?_;rw[Tryz.ntmps189];simp only[Qe];have zc:=Qi hp;have ze:IntKind.i64.wrap ((xs.length:Int) - 1)=(xs.length:Int) - 1:=wrap_i64 _ (by omega) (by omega);have z6:H.set p (.arr 52 2 (xs.map encSy))=H:=by
  refine xD fun i=> ?_;by_cases e:i=p
  ·subst e;rw[zH zc,hp]
  ·rw[zB (Ne.symm e)]
 repeat first|(refine r_ ?_;simp[ze])|refine q_ ?_
 refine Qm (Qb (sl':=[(0,.sl p 2 0 xs.length),(2,.i (0:Nat)),(3,.i ((xs.length:Int) - 1))]) ?_ (by simp));refine Ql (P:=Tryz.prog) (F:=fun(u:Nat×Int×List Sy×List AObj)=>⟨[(0,.sl p 2 0 xs.length),(2,.i u.1),(3,.i u.2.1)],u.2.2.2⟩)
  (fun u=>u.1≤xs.length∧u.2.1=(xs.length:Int) - 1 - u.1∧z1x xs u.2.2.1 u.1∧u.2.2.2=H.set p (.arr 52 2 (u.2.2.1.map encSy))) (fun u=>xs.length - u.1) ?_ (0,(xs.length:Int) - 1,xs,H) ⟨xA _,by simp,z1x.start xs,z6.symm⟩
 rintro⟨i,m,ys,G⟩ ⟨hi,hm,hr,hG⟩ ih;simp only at hi hm hr hG ih ⊢;repeat first|(refine r_ ?_;simp)|refine q_ ?_
 refine Qa rfl (fun zf=> ?_) (fun zg=> ?_)
 ·have zh:(i:Int)<m:=by simpa using zf
  obtain⟨k,rfl⟩:∃k:Nat,m=k:=⟨m.toNat,by omega⟩
  have hk:k=xs.length - 1 - i:=by omega
  have zi:i<k:=by omega
  have zj:k<xs.length:=by omega
  have z7:i<xs.length:=by omega
  have zk:IntKind.i64.wrap ((i:Int)+1)=i+1:=wrap_i64 _ (by omega) (by omega);have zl:IntKind.i64.wrap ((k:Int) - 1)=(k:Int) - 1:=wrap_i64 _ (by omega) (by omega);have zr:=hr.1;obtain⟨x,hx⟩:∃x,ys[i]? =some x:=⟨_,zD (by omega)⟩
  obtain⟨y,hy⟩:∃y,ys[k]? =some y:=⟨_,zD (by omega)⟩
  have hst:=hr.step (by omega) hx (by rw[←hk];exact hy);rw[←hk]at hst;have hg:G[p]? =some (.arr 52 2 (ys.map encSy)):=by rw[hG,zH zc]
  have zd:(ys.map encSy)[i]? =some (.agg [.i x.ty,.i x.num]):=by rw[zQ,hx];rfl
  have z8:(ys.map encSy)[k]? =some (.agg [.i y.ty,.i y.num]):=by rw[zQ,hy];rfl
  have zm:∀hh,(ys.map encSy)[i]'hh= .agg [.i x.ty,.i x.num]:=fun hh=>(xF hh).2 zd;have zn:∀hh,(ys.map encSy)[k]'hh= .agg [.i y.ty,.i y.num]:=fun hh=>(xF hh).2 z8;have zo:i<ys.length:=by omega
  have za:k<ys.length:=by omega
  have zp:∀z,(G.set p z)[p]? =some z:=fun z=>Qp hg z;have z1:∀z,((ys.map encSy).set i z)[k]? =some (.agg [.i y.ty,.i y.num]):=fun z=>by rw[zB (by omega)];exact z8
  have zb:∀z hh,((ys.map encSy).set i z)[k]'hh= .agg [.i y.ty,.i y.num]:=fun z hh=>(xF hh).2 (z1 z);repeat first|(refine r_ ?_;simp)|refine q_ ?_
  refine Qk tOk mixed [13,15] (.val 0 (.val 1 (.val 2 (.val 3 (.val 4 (.val 5 (.val 6 (.val 7 (.val 8 (.val 9 (.val 10 (.val 11 (.val 12 (.one 13 (.val 14 (.one 15 (.done))))))))))))))))) rfl (by kernel_rfl) ?_;simp[hg,zd,z8,zm,zn,zo,za,zp,z1,zi,zj,z7,zb];repeat first|(refine r_ ?_;simp[zk,zl])|refine q_ ?_
  refine Qb (sl':=[(0,.sl p 2 0 xs.length),(2,.i (i+1:Nat)),(3,.i ((k:Int) - 1))]) ?_ (by simp);exact ih (i+1,(k:Int) - 1,(ys.set i y).set k x,_) ⟨by simp only;omega,by simp only;omega,hst,by rw[hG,List.set_set];simp[List.map_set,encSy]⟩ (by simp only;omega)
 ·have zq:m≤(i:Int):=by simpa using zg
  have hd:=hr.done (by omega);subst hd;repeat first|(refine r_ ?_;simp)|refine q_ ?_
  rw[hG,List.map_reverse]
def A3(v:Vst):AV:= .agg [.i v.s.1,.i v.s.2,.i v.fr,.i v.on.ty,.i v.on.num,.bool v.fst]
theorem z16(V:List Vst)(L:List ((Int×Int)×List Sy))(hV:VOk V L)(i:Nat)(e:(Int×Int)×List Sy)(he:L[i]? =some e)(hl:V.length≤1000000):PC Tryz.prog 128 [.list (V.map A3),.i i] (fun r=>r=LSy e.2):=by
 refine Qh tOk Tryz.func128 rfl Tryz.results128 rfl (by simp[Tryz.ntmps128]) ?_;rw[Tryz.ntmps128];simp only[Qe];have ze:i<L.length:=(zA.1 he).1;have zf:=hV.len;repeat first|(refine r_ ?_;simp)|refine q_ ?_
 refine Q6 5 52 2 rfl ?_;simp;have hst:=SL.start [] 52 2;refine Qm (Qb (sl':=[(0,.list (V.map A3)),(1,.i i),(5,.sl 0 2 0 ([]:List Sy).length)]) ?_ (by simp));refine Ql (P:=Tryz.prog) (F:=fun(u:Nat×Nat×List Sy×List AObj)=>⟨[(0,.list (V.map A3)),(1,.i u.1),(5,.sl u.2.1 2 0 u.2.2.1.length)],u.2.2.2⟩)
  (fun u=>(∃d,L[u.1]? =some d∧e.2=d.2++u.2.2.1.reverse)∧u.2.2.1.length+u.1≤i∧u.2.2.2[u.2.1]? =some (.arr 52 2 (u.2.2.1.map encSy))) (fun u=>u.1) ?_ (i,0,[],_) ⟨⟨e,he,by simp⟩,by simp,by simp⟩
 rintro⟨k,q,out,G⟩ ⟨⟨d,hd,z1⟩,zc,gq⟩ ih;simp only at hd z1 zc gq ih ⊢;have z7:k<V.length:=by have:=(zA.1 hd).1;omega
 obtain⟨v,hv⟩:∃v,V[k]? =some v:=⟨_,zD z7⟩
 have za:=hV.way k v d hv hd;have z6:(V.map A3)[k]? =some (A3 v):=by rw[zQ,hv];rfl
 have z8:∀hh,(V.map A3)[k]'hh=A3 v:=fun hh=>(xF hh).2 z6;simp only[A3]at z6 z8;repeat first|(refine r_ ?_;simp[z6,z8,z7])|refine q_ ?_
 rcases za with⟨h1,h2⟩|⟨h1,h2,d',h3,h4⟩
 ·rw[h2,List.nil_append]at z1;rw[h1];refine Qa rfl (fun h=>by simp at h) (fun _=> ?_);repeat first|(refine r_ ?_;simp)|refine q_ ?_
  refine Wd rfl rfl (Ct G q out gq (by omega)) rfl ?_;rintro _ _ ⟨rfl,rfl⟩;simp;have zd:∀z,(G.set q z)[q]? =some z:=fun z=>Qp gq z;have zg:out.length=e.2.length:=by rw[z1];simp
  rw[z1];repeat first|(refine r_ ?_;simp[zd])|refine q_ ?_
  rw[zM (by simp)]
 ·rw[h1];refine Qa rfl (fun _=> ?_) (fun h=>by simp at h);have zb:(out.map encSy).length=out.length:=by simp
  repeat first|(refine r_ ?_;simp[z6,z8,z7])|refine q_ ?_
  refine Qf tOk rfl rfl T26 rfl T52 rfl (by decide) (by decide) rfl rfl rfl ?_;simp[Qc gq,Qj gq,zb];refine⟨by simp[Wp,Qc gq,Qj gq,zb]<;>omega,?_⟩;repeat first|(refine r_ ?_;simp[z6,z8,z7])|refine q_ ?_
  refine Qb (sl':=[(0,.list (V.map A3)),(1,.i v.fr),(5,.sl (G.length+1) 2 0 (out++[v.on]).length)]) ?_ (by simp);refine ih (v.fr,G.length+1,out++[v.on],_) ⟨⟨d',h3,by rw[z1,h4];simp⟩,by simp;omega,?_⟩ h2;simp only;rw[zC (by simp)];simp[encSy]
end Go.Abs
namespace Go.Abs
open Go Go.Proofs Go.Maps Go.RowKit
theorem g1h(x y:Int):(if x<y then y else x)=max x y:=by omega
def x2i:Option Int→AV
 |some n=> .tup [.i n,.bool true]
 |none=> .tup [.i 0,.bool false]
def z1a:Option Sy→AV
 |some x=> .tup [encSy x,.bool true]
 |none=> .tup [encSy ⟨0,0⟩,.bool false]
attribute [local irreducible] lqB C7
end Go.Abs
namespace Go.Abs
open Go Go.Proofs Go.Maps Go.RowKit
def d0r:Option Int→AV
 |some m=> .tup [.i m,.bool true]
 |none=> .tup [.i 0,.bool false]
theorem q1p(l:List Iv)(n:Int):PC Tryz.prog 281 [LIv l,.i n] (fun r=>r=d0r (x0k l n)):=by
 refine Qh tOk Tryz.func281 rfl Tryz.results281 rfl (by simp[Tryz.ntmps281]) ?_;rw[Tryz.ntmps281];simp only[Qe];refine Rp 0 rfl (fun hlen=> ?_);rw[zV]at hlen;obtain⟨R,hR⟩:∃R,x0k l n=R:=⟨_,rfl⟩
 rw[hR];repeat first|(refine r_ ?_;simp)|refine q_ ?_
 refine Qt l.length (fun j=>x0k (l.drop j) n=R) (fun j=>[(1,.i n),(8,LIv l),(9,.i l.length),(10,.i j)]) (fun _=>[]) rfl (by simp) (by simp) (by simp) (by simp) (by simpa using hR) ?_;intro j hj hI ih;repeat first|(refine r_ ?_;simp)|refine q_ ?_
 refine Qa rfl (fun za=> ?_) (fun zb=> ?_)
 ·have z1:j<l.length:=by simpa using za
  have hw:IntKind.i64.wrap ((j:Int)+1)=j+1:=wrap_i64 _ (by omega) (by omega);rw[Wq z1,x0k]at hI;have z7:(l.map encIv)[j]? =some (encIv l[j]):=by simp[z1]
  have z8:∀hh,(l.map encIv)[j]'hh=encIv l[j]:=fun hh=>by simp
  generalize l[j]=x at *;simp only[encIv]at z7 z8
  repeat first|(refine r_ ?_;simp[z7,z8,z1])|refine q_ ?_
  refine Qa rfl (fun h=> ?_) (fun h=> ?_)
  ·rw[if_pos (by simpa using h)]at hI;subst hI;repeat first|(refine r_ ?_;simp)|refine q_ ?_
   simp only[d0r,g1h]
  ·rw[if_neg (by simpa using h)]at hI;repeat first|(refine r_ ?_;simp[hw])|refine q_ ?_
   refine Qq _ (ih z1 hI) rfl (by simp) ?_ (by simp) (by simp);simp
 ·have z6:j=l.length:=by simp at zb;omega
  subst z6;rw[yY]at hI;subst hI;repeat first|(refine r_ ?_;simp)|refine q_ ?_
  rfl
def bdL(l:List Iv):Prop:=∀x∈l,-1099511627776≤x.lo∧x.hi≤1099511627776
theorem z0q(l:List Iv)(n:Int)(hb:bdL l):PC Tryz.prog 282 [LIv l,.i n] (fun r=>r= .i (Mq l n)):=by
 refine Qh tOk Tryz.func282 rfl Tryz.results282 rfl (by simp[Tryz.ntmps282]) ?_;rw[Tryz.ntmps282];simp only[Qe];refine Rp 0 rfl (fun hlen=> ?_);rw[zV]at hlen;obtain⟨R,hR⟩:∃R,Mq l n=R:=⟨_,rfl⟩
 rw[hR];repeat first|(refine r_ ?_;simp)|refine q_ ?_
 refine Qm (Qb (sl':=[(1,.i n),(7,LIv l),(8,.i l.length),(9,.i (0:Nat))]) ?_ (by simp));refine Ql (P:=Tryz.prog) (F:=fun(u:Nat×Int×List AObj)=>⟨[(1,.i u.2.1),(7,LIv l),(8,.i l.length),(9,.i u.1)],u.2.2⟩)
  (fun u=>u.1≤l.length∧Mq (l.drop u.1) u.2.1=R) (fun u=>l.length - u.1) ?_ (0,n,[]) ⟨xA _,by simpa using hR⟩
 clear hR;rintro⟨j,c,G⟩ ⟨hj,hI⟩ ih;simp only at hj hI ih ⊢;repeat first|(refine r_ ?_;simp)|refine q_ ?_
 refine Qa rfl (fun zb=> ?_) (fun zc=> ?_)
 ·have z1:j<l.length:=by simpa using zb
  have hw:IntKind.i64.wrap ((j:Int)+1)=j+1:=wrap_i64 _ (by omega) (by omega);rw[Wq z1,Mq]at hI;have z6:(l.map encIv)[j]? =some (encIv l[j]):=by simp[z1]
  have z7:∀hh,(l.map encIv)[j]'hh=encIv l[j]:=fun hh=>by simp
  have hx:=hb _ (zG z1);generalize l[j]=x at *;simp only[encIv]at z6 z7
  by_cases h1:x.lo≤c
  ·have d1:decide (x.lo≤c)=true:=by simpa using h1
   repeat first|(refine r_ ?_;simp[z6,z7,z1,d1])|refine q_ ?_
   refine Qa rfl (fun h=> ?_) (fun h=> ?_)
   ·have h2:c≤x.hi:=by simpa using h
    rw[if_pos ⟨h1,h2⟩]at hI;have z8:IntKind.i64.wrap (x.hi+1)=x.hi+1:=wrap_i64 _ (by omega) (by omega);repeat first|(refine r_ ?_;simp[z8,hw])|refine q_ ?_
    refine Qb (sl':=[(1,.i (x.hi+1)),(7,LIv l),(8,.i l.length),(9,.i (j+1:Nat))]) ?_ (by simp);exact ih (j+1,x.hi+1,_) ⟨by simp only;omega,hI⟩ (by simp only;omega)
   ·have h2:¬c≤x.hi:=by simpa using h
    rw[if_neg (fun k=>h2 k.2)]at hI;repeat first|(refine r_ ?_;simp[hw])|refine q_ ?_
    refine Qb (sl':=[(1,.i c),(7,LIv l),(8,.i l.length),(9,.i (j+1:Nat))]) ?_ (by simp);exact ih (j+1,c,_) ⟨by simp only;omega,hI⟩ (by simp only;omega)
  ·have d1:decide (x.lo≤c)=false:=by simpa using h1
   rw[if_neg (fun k=>h1 k.1)]at hI;repeat first|(refine r_ ?_;simp[z6,z7,z1,d1])|refine q_ ?_
   refine Qa rfl (fun h=>by simp at h) (fun h=> ?_);repeat first|(refine r_ ?_;simp[hw])|refine q_ ?_
   refine Qb (sl':=[(1,.i c),(7,LIv l),(8,.i l.length),(9,.i (j+1:Nat))]) ?_ (by simp);exact ih (j+1,c,_) ⟨by simp only;omega,hI⟩ (by simp only;omega)
 ·have za:j=l.length:=by simp at zc;omega
  subst za;rw[yY]at hI;subst hI;repeat first|(refine r_ ?_;simp)|refine q_ ?_
  rfl
def d02:Option Int→AV
 |some m=> .tup [.i m,.bool (decide (m≤1099511627776))]
 |none=> .tup [.i 0,.bool false]
def w27(O:List (List Iv)):Option Int→Option Int
 |some m=>some (g0k O m)
 |none=>none
theorem u1k(I O:List (List Iv))(n:Int):x1n I O n=w27 O (u06 I n):=by unfold x1n w27;cases u06 I n<;>rfl
theorem M6{t:Nat}{ps:List Prd}{j:Nat}(h:j<ps.length):Ar t (ps.drop j)=ps[j].getD t []::Ar t (ps.drop (j+1)):=by unfold Ar;rw[Wq h];rfl
theorem f1e{T:Nat}{p:Prd}(h:PCk T p){s:List Iv}(hs:s∈p):bdL s:=fun x hx=>by obtain⟨i,hi,rfl⟩:=yG hx;have:=(h.2 s hs).iv hi;omega
theorem v0l{p:Prd}{t:Nat}(h:t<p.length):p.getD t []=p[t]:=by simp[yT,h]
theorem Lb{T:Nat}{p:Prd}(h:PCk T p){t:Nat}(ht:t<T):(p.map encL)[t]? =some (encL (p.getD t []))∧p.getD t []∈p:=by
 have hl:t<p.length:=by rw[h.1];exact ht
 rw[v0l hl];exact⟨by simp[hl],zG hl⟩
attribute [local irreducible] x0k Mq
theorem w1h(T:Nat)(ins outs:List Prd)(zj:∀p∈ins,PCk T p)(zc:∀p∈outs,PCk T p)(t:Nat)(ht:t<T)(n:Int):PC Tryz.prog 233 [.i n,.i t,LP ins,LP outs] (fun r=>r=d02 (x1n (Ar t ins) (Ar t outs) n)):=by
 refine Qh tOk Tryz.func233 rfl Tryz.results233 rfl (by simp[Tryz.ntmps233]) ?_;rw[Tryz.ntmps233];simp only[Qe];refine Rp 2 rfl (fun hlen=> ?_);refine Rp 3 rfl (fun z7=> ?_);rw[zV]at hlen z7;obtain⟨R,hR⟩:∃R,x1n (Ar t ins) (Ar t outs) n=R:=⟨_,rfl⟩
 rw[hR];rw[u1k]at hR;repeat first|(refine r_ ?_;simp)|refine q_ ?_
 refine Qm (Qb (sl':=[(0,.i n),(1,.i t),(3,LP outs),(16,LP ins),(17,.i ins.length),(18,.i (0:Nat))]) ?_ (by simp));refine Ql (P:=Tryz.prog) (F:=fun(u:Nat×Int×List AObj)=>⟨[(0,.i u.2.1),(1,.i t),(3,LP outs),(16,LP ins),(17,.i ins.length),(18,.i u.1)],u.2.2⟩)
  (fun u=>u.1≤ins.length∧w27 (Ar t outs) (u06 (Ar t (ins.drop u.1)) u.2.1)=R) (fun u=>ins.length - u.1) ?_ (0,n,[]) ⟨xA _,by simpa using hR⟩
 clear hR;rintro⟨j,c,G⟩ ⟨hj,hI⟩ ih;simp only at hj hI ih ⊢;repeat first|(refine r_ ?_;simp)|refine q_ ?_
 refine Qa rfl (fun zd=> ?_) (fun ze=> ?_)
 ·have z1:j<ins.length:=by simpa using zd
  have hw:IntKind.i64.wrap ((j:Int)+1)=j+1:=wrap_i64 _ (by omega) (by omega);rw[M6 z1,u06]at hI;have z8:(ins.map encP)[j]? =some (encP ins[j]):=by simp[z1]
  have za:∀hh,(ins.map encP)[j]'hh=encP ins[j]:=fun hh=>by simp
  have hp:=zj _ (zG z1);generalize ins[j]=p at *
  obtain⟨zb,zh⟩:=Lb hp ht;have zf:∀hh,(p.map encL)[t]'hh=encL (p.getD t []):=fun hh=>(xF hh).2 zb;have zg:t<p.length:=by rw[hp.1];exact ht
  generalize p.getD t []=s at *;simp only[encP]at z8 za
  repeat first|(refine r_ ?_;simp[z8,za,z1,zb,zf,zg])|refine q_ ?_
  refine Qd rfl rfl (by simp) (q1p s c) rfl ?_;rintro _ rfl;simp;cases hf:x0k s c with
  |none=>
   rw[hf]at hI;simp only at hI;subst hI;simp[d0r];repeat first|(refine r_ ?_;simp)|refine q_ ?_
   refine Qa rfl (fun _=> ?_) (fun h=>by simp at h);repeat first|(refine r_ ?_;simp)|refine q_ ?_
   rfl
  |some m=>
   rw[hf]at hI;simp only at hI;simp[d0r];repeat first|(refine r_ ?_;simp)|refine q_ ?_
   refine Qa rfl (fun h=>by simp at h) (fun _=> ?_);repeat first|(refine r_ ?_;simp[hw])|refine q_ ?_
   refine Qb (sl':=[(0,.i m),(1,.i t),(3,LP outs),(16,LP ins),(17,.i ins.length),(18,.i (j+1:Nat))]) ?_ (by simp);exact ih (j+1,m,_) ⟨by simp only;omega,hI⟩ (by simp only;omega)
 ·have z6:j=ins.length:=by simp at ze;omega
  subst z6;rw[yY]at hI;simp only[Ar,xI,u06]at hI;clear ih;repeat first|(refine r_ ?_;simp)|refine q_ ?_
  have zi:some (g0k (Ar t outs) c)=R:=hI;refine Qm (Qb (sl':=[(0,.i c),(1,.i t),(36,LP outs),(37,.i outs.length),(38,.i (0:Nat))]) ?_ (by simp));refine Ql (P:=Tryz.prog) (F:=fun(u:Nat×Int×List AObj)=>⟨[(0,.i u.2.1),(1,.i t),(36,LP outs),(37,.i outs.length),(38,.i u.1)],u.2.2⟩)
   (fun u=>u.1≤outs.length∧some (g0k (Ar t (outs.drop u.1)) u.2.1)=R) (fun u=>outs.length - u.1) ?_ (0,c,G) ⟨xA _,by simpa using zi⟩
  clear hI zi;clear G c;rintro⟨j,c,G⟩ ⟨hj,hI⟩ ih;simp only at hj hI ih ⊢;repeat first|(refine r_ ?_;simp)|refine q_ ?_
  refine Qa rfl (fun zd=> ?_) (fun ze=> ?_)
  ·have z1:j<outs.length:=by simpa using zd
   have hw:IntKind.i64.wrap ((j:Int)+1)=j+1:=wrap_i64 _ (by omega) (by omega);rw[M6 z1,g0k]at hI;have z8:(outs.map encP)[j]? =some (encP outs[j]):=by simp[z1]
   have za:∀hh,(outs.map encP)[j]'hh=encP outs[j]:=fun hh=>by simp
   have hp:=zc _ (zG z1);generalize outs[j]=p at *
   obtain⟨zb,zh⟩:=Lb hp ht;have zf:∀hh,(p.map encL)[t]'hh=encL (p.getD t []):=fun hh=>(xF hh).2 zb;have zg:t<p.length:=by rw[hp.1];exact ht
   have zk:=f1e hp zh;generalize p.getD t []=s at *;simp only[encP]at z8 za
   repeat first|(refine r_ ?_;simp[z8,za,z1,zb,zf,zg])|refine q_ ?_
   refine Qd rfl rfl (by simp) (z0q s c zk) rfl ?_;rintro _ rfl;simp;generalize Mq s c=m at *
   repeat first|(refine r_ ?_;simp[hw])|refine q_ ?_
   refine Qb (sl':=[(0,.i m),(1,.i t),(36,LP outs),(37,.i outs.length),(38,.i (j+1:Nat))]) ?_ (by simp);exact ih (j+1,m,_) ⟨by simp only;omega,hI⟩ (by simp only;omega)
  ·have z6:j=outs.length:=by simp at ze;omega
   subst z6;rw[yY]at hI;simp only[Ar,xI,g0k]at hI;subst hI;repeat first|(refine r_ ?_;simp)|refine q_ ?_
   simp[d02]
theorem g1p{T:Nat}{ps:List Prd}(h:∀p∈ps,PCk T p){t:Nat}(ht:t<T):∀l∈Ar t ps,Sep l:=fun l hl=>by unfold Ar at hl;obtain⟨p,hp,rfl⟩:=zK.1 hl;exact Af ((h p hp).2 _ (Lb (h p hp) ht).2)
attribute [local irreducible] x1n Fo
theorem Cj(T:Nat)(hT:T≤1000)(ins outs:List Prd)(zi:∀p∈ins,PCk T p)(ze:∀p∈outs,PCk T p)(P:Prd)(hf:FitP T ins outs P):PC Tryz.prog 193 [.i T,LP ins,LP outs] (fun r=>r=z1a (Zw P)):=by
 refine Qh tOk Tryz.func193 rfl Tryz.results193 rfl (by simp[Tryz.ntmps193]) ?_;rw[Tryz.ntmps193];simp only[Qe];have hex:=fun t n=>hf.mem t n;have za:=fun t n h1 h2 h3 h4 h5=>hf.some (t:=t) (n:=n) h1 h2 h3 h4 h5;have zb:=hf.none;have zj:=fun t h k=>hf.no (t:=t) h k;generalize Zw P=R at *
 repeat first|(refine r_ ?_;simp)|refine q_ ?_
 refine Qm (Qb (sl':=[(1,LP ins),(2,LP outs),(6,.vptr 0 0),(12,.i T),(13,.i (0:Nat))]) ?_ (by simp));refine Ql (P:=Tryz.prog) (F:=fun(t:Nat)=>⟨[(1,LP ins),(2,LP outs),(6,.vptr 0 0),(12,.i T),(13,.i t)],[.vars [.i 0,.i 0]]⟩)
  (fun t=>t≤T∧∀t',t'<t→∀k,¬PM P t' k) (fun t=>T - t) ?_ 0 ⟨xA _,fun t' h=>absurd h (tA _)⟩
 rintro t ⟨zn,hb⟩ ih;repeat first|(refine r_ ?_;simp)|refine q_ ?_
 refine Qa rfl (fun zk=> ?_) (fun zl=> ?_)
 ·have z6:t<T:=by simpa using zk
  have hw:IntKind.i64.wrap ((t:Int)+1)=t+1:=wrap_i64 _ (by omega) (by omega);have zc:=fun n=>w1h T ins outs zi ze t z6 n;have zm:=fun n=>d04 (Ar t ins) (Ar t outs) n (g1p zi z6);have z7:=fun n=>za t n z6 hb;have zf:=zj t;generalize Ar t ins=I at *;generalize Ar t outs=O at *
  repeat first|(refine r_ ?_;simp)|refine q_ ?_
  refine Qm (Qb (sl':=[(1,LP ins),(2,LP outs),(6,.vptr 0 0),(8,.i t),(9,.i (-1099511627776)),(12,.i T),(13,.i t)]) ?_ (by simp));refine Ql (P:=Tryz.prog) (F:=fun(n:Int)=>⟨[(1,LP ins),(2,LP outs),(6,.vptr 0 0),(8,.i t),(9,.i n),(12,.i T),(13,.i t)],[.vars [.i 0,.i 0]]⟩)
   (fun n=>inR n∧∀k,inR k→Fo I O k→n≤k) (fun n=>(1099511627777 - n).toNat) ?_ (-1099511627776) ⟨by unfold inR;omega,fun k hk _=>hk.1⟩
  rintro n ⟨hn,z1⟩ ih2;repeat first|(refine r_ ?_;simp)|refine q_ ?_
  refine Qd rfl rfl (by simp) (zc n) rfl ?_;rintro _ rfl;simp;have z8:=zm n;have zd:(∀k,inR k→¬Fo I O k)→∀t',t'<t+1→∀k,¬PM P t' k:=fun h t' zo k=>by
   by_cases e:t'=t
   ·subst e;exact zf h k
   ·exact hb t' (by omega) k
  cases hx:x1n I O n with
  |none=>
   rw[hx]at z8;simp only at z8;simp[d02];repeat first|(refine r_ ?_;simp)|refine q_ ?_
   refine Qa rfl (fun _=> ?_) (fun h=>by simp at h);repeat first|(refine r_ ?_;simp[hw])|refine q_ ?_
   refine Qb (sl':=[(1,LP ins),(2,LP outs),(6,.vptr 0 0),(12,.i T),(13,.i (t+1:Nat))]) ?_ (by simp);exact ih (t+1) ⟨by omega,zd fun k hk hg=>z8 k (z1 k hk hg) hg⟩ (by omega)
  |some m=>
   rw[hx]at z8;simp only at z8;obtain⟨s1,s2,s3⟩:=z8;simp[d02];by_cases hm:m≤1099511627776
   ·repeat first|(refine r_ ?_;simp[hm])|refine q_ ?_
    refine Qa rfl (fun h=>by simp[hm]at h) (fun _=> ?_);repeat first|(refine r_ ?_;simp)|refine q_ ?_
    refine Qa rfl (fun h=> ?_) (fun h=> ?_)
    ·have e:m=n:=by simpa using h
     have zg:=z7 n hn (s3 e) z1;subst zg;repeat first|(refine r_ ?_;simp)|refine q_ ?_
     simp[z1a,encSy]
    ·have e:m≠n:=by simpa using h
     repeat first|(refine r_ ?_;simp)|refine q_ ?_
     refine Qb (sl':=[(1,LP ins),(2,LP outs),(6,.vptr 0 0),(8,.i t),(9,.i m),(12,.i T),(13,.i t)]) ?_ (by simp);exact ih2 m ⟨⟨by have:=hn.1;omega,hm⟩,fun k hk hg=>s2 k (z1 k hk hg) hg⟩ (by have:=hn.1;omega)
   ·repeat first|(refine r_ ?_;simp[hm])|refine q_ ?_
    refine Qa rfl (fun _=> ?_) (fun h=>by simp[hm]at h);repeat first|(refine r_ ?_;simp[hw])|refine q_ ?_
    refine Qb (sl':=[(1,LP ins),(2,LP outs),(6,.vptr 0 0),(12,.i T),(13,.i (t+1:Nat))]) ?_ (by simp);exact ih (t+1) ⟨by omega,zd fun k hk hg=>hm (Int.le_trans (s2 k (z1 k hk hg) hg) hk.2)⟩ (by omega)
 ·have zh:t=T:=by simp at zl;omega
  subst zh;have zg:=zb hb;subst zg;repeat first|(refine r_ ?_;simp)|refine q_ ?_
  simp[z1a,encSy]
end Go.Abs
namespace Go.Abs
open Go Go.Proofs Go.Maps Go.RowKit
section
variable {P:Program} [Env P] {nt k:Nat} {ops:Array Oper} {o:Oper} {R:AS→Prop}
theorem Cu{wr:Bool}{sl:List (Nat×AV)}{H:List AObj}(i:Nat){e c:Nat}{xs:List AV}(hi:H[i]? =some (.arr e c xs))(h:Wl P nt k wr ops o ⟨sl,H.set i (.arr e c (xs.map AV.nrm))⟩ R):Wl P nt k wr ops o ⟨sl,H⟩ R:=
 fun C a w K Q hs=>h C a w K Q (hs.swap hi rfl (fun _ _=>Ui.nrmArr))
end
def Wv(s:Int):Option Mv→AV
 |some m=>encMv m
 |none=> .agg [.i s,.i (-1),.list []]
theorem Mk{a:Aut}{s:Int}{j:Nat}(h:j<a.mv.length):(a.mv.take (j+1)).filter (fun m=>decide (m.src=s))=(a.mv.take j).filter (fun m=>decide (m.src=s))++(if a.mv[j].src=s then [a.mv[j]]else []):=by
 rw[zJ h,List.filter_append]
 congr 1
 by_cases e:a.mv[j].src=s<;>simp[e]
theorem z2t(a:Aut)(s:Int)(j:Nat):((a.mv.take j).filter fun m=>decide (m.src=s)).length≤a.mv.length:=yO (vE _ _) (by rw[yP];omega)
theorem Fk(a:Aut)(s:Int)(zm:a.mv.length≤1000000):PC Tryz.prog 191 [encA a,.i s] (fun r=>r= .list ((Wi a s).map (Wv s))):=by
 refine Qh tOk Tryz.func191 rfl Tryz.results191 rfl (by simp[Tryz.ntmps191]) ?_;rw[Tryz.ntmps191];simp only[Qe];simp only[encA];refine Wn 0 2 rfl rfl (fun hlen=> ?_);rw[zV]at hlen;repeat first|(refine r_ ?_;simp)|refine q_ ?_
 have zc:=fun j (h:j<a.mv.length)=>Mk (a:=a) (s:=s) h;have zd:=fun j=>z2t a s j;refine Q6 5 73 3 rfl ?_;simp;obtain⟨K,hK⟩:∃K,K=[AObj.vars (Qo a)]:=⟨_,rfl⟩
 have hst:=SL.start K 73 3;refine Qm (Qb (sl':=[(1,.i s),(5,.sl 1 3 0 ((a.mv.take 0).filter fun m=>decide (m.src=s)).length),(9,.list (a.mv.map encMv)),(10,.i a.mv.length),(11,.i (0:Nat))]) ?_ (by simp));refine Ql (P:=Tryz.prog) (F:=fun(u:Nat×Nat×List AObj)=>⟨[(1,.i s),(5,.sl u.2.1 3 0 ((a.mv.take u.1).filter fun m=>decide (m.src=s)).length),(9,.list (a.mv.map encMv)),(10,.i a.mv.length),(11,.i u.1)],u.2.2⟩)
  (fun u=>u.1≤a.mv.length∧SL K u.2.2 u.2.1 73 3 (((a.mv.take u.1).filter fun m=>decide (m.src=s)).map encMv)) (fun u=>a.mv.length - u.1) ?_ (0,1,_) ⟨xA _,by rw[hK]at hst ⊢;simpa using hst⟩
 rintro⟨j,q,G⟩ ⟨hj,g⟩ ih;simp only at hj g ih ⊢;have z8:=zd j;repeat first|(refine r_ ?_;simp)|refine q_ ?_
 refine Qa rfl (fun ze=> ?_) (fun zf=> ?_)
 ·have z1:j<a.mv.length:=by simpa using ze
  have hw:IntKind.i64.wrap ((j:Int)+1)=j+1:=wrap_i64 _ (by omega) (by omega);have zg:=zc j z1;have z6:=fun q' G'=>ih (j+1,q',G');simp only[zg]at z6;have za:(a.mv.map encMv)[j]? =some (encMv a.mv[j]):=by simp[z1]
  have zb:∀hh,(a.mv.map encMv)[j]'hh=encMv a.mv[j]:=fun hh=>by simp
  generalize a.mv[j]=m at *;generalize (a.mv.take j).filter (fun m=>decide (m.src=s))=P at *
  have z7:(P.map encMv).length=P.length:=by simp
  simp only[encMv]at za zb;repeat first|(refine r_ ?_;simp[za,zb,z1])|refine q_ ?_
  refine Qa rfl (fun h=> ?_) (fun h=> ?_)
  ·have e:m.src=s:=by simpa using h
   rw[if_pos e]at z6;repeat first|(refine r_ ?_;simp)|refine q_ ?_
   refine Qf tOk rfl rfl T23 rfl T73 rfl (by decide) (by decide) rfl rfl rfl ?_;simp[Qc g.arr,Qj g.arr,z7];refine⟨by simp[Wp,Qc g.arr,Qj g.arr,z7]<;>omega,?_⟩;repeat first|(refine r_ ?_;simp[hw])|refine q_ ?_
   refine Qb (sl':=[(1,.i s),(5,.sl (G.length+2) 3 0 (P++[m]).length),(9,.list (a.mv.map encMv)),(10,.i a.mv.length),(11,.i (j+1:Nat))]) ?_ (by simp);have:=z6 (G.length+2) _ ⟨by omega,g.put [AObj.vars [.i m.src,.i m.dst,.list (m.on.map encL)],AObj.arr 73 3 [encMv m]] ((P++[m]).map encMv) rfl⟩ (by omega);simpa[encMv]using this
  ·have e:m.src≠s:=by simpa using h
   rw[if_neg e,xO]at z6;repeat first|(refine r_ ?_;simp[hw])|refine q_ ?_
   refine Qb (sl':=[(1,.i s),(5,.sl q 3 0 P.length),(9,.list (a.mv.map encMv)),(10,.i a.mv.length),(11,.i (j+1:Nat))]) ?_ (by simp);exact z6 q _ ⟨by omega,g.add _⟩ (by omega)
 ·have zh:j=a.mv.length:=by simp at zf;omega
  subst zh;have zi:a.mv.take a.mv.length=a.mv:=zZ;rw[zi]at g z8 ⊢;have zj:a.mv.filter (fun m=>decide (m.src=s))=mvS a s:=rfl;have zk:(Wi a s).map (Wv s)=(mvS a s).map encMv++[.agg [.i s,.i (-1),.list []]]:=by unfold Wi;simp[Wv]
  rw[zk];rw[zj]at g z8 ⊢;generalize mvS a s=P at *
  have z7:(P.map encMv).length=P.length:=by simp
  repeat first|(refine r_ ?_;simp)|refine q_ ?_
  refine Cu G.length (e:=73) (c:=3) (xs:=[.agg [.i s,.i (-1),.nils]]) (by simp) ?_;have zl:∀u z:AObj,(G++[u]).set G.length z=G++[z]:=fun u z=>by rw[List.set_append_right _ _ (by simp)];simp
  simp[zl];refine Qf tOk rfl rfl T23 rfl T73 rfl (by decide) (by decide) rfl rfl rfl ?_;simp[Qc g.arr,Qj g.arr,z7];refine⟨by simp[Wp,Qc g.arr,Qj g.arr,z7]<;>omega,?_⟩;repeat first|(refine r_ ?_;simp)|refine q_ ?_
  rw[zM (by simp)]
theorem Xj(a:Aut)(s:Int)(i:Nat)(o:Option Mv)(h:(Wi a s)[i]? =some o)(hl:a.mv.length≤1000000):PC Tryz.prog 192 [.list ((Wi a s).map (Wv s)),.i i] (fun r=>r= .tup [LP (Jt o),LP (Am a s o)]):=by
 refine Qh tOk Tryz.func192 rfl Tryz.results192 rfl (by simp[Tryz.ntmps192]) ?_;rw[Tryz.ntmps192];simp only[Qe];have zr:(mvS a s).length≤a.mv.length:=vE _ _;have zh:(Wi a s).length=(mvS a s).length+1:=by unfold Wi;simp
 have zi:i<(Wi a s).length:=(zA.1 h).1;have zj:IntKind.i64.wrap ((mvS a s).length:Int)=(mvS a s).length:=wrap_i64 _ (by omega) (by omega);repeat first|(refine r_ ?_;simp[zh,zj])|refine q_ ?_
 refine Qa rfl (fun zk=> ?_) (fun zl=> ?_)
 ·have z7:i<(mvS a s).length:=by simpa using zk
  obtain⟨m,rfl,z6⟩:∃m,o=some m∧((Wi a s).map (Wv s))[i]? =some (encMv m):=by unfold Wi at h ⊢;rw[zE (by simpa using z7)]at h;rw[zQ,zE (by simpa using z7),h];rw[zQ]at h;obtain⟨m,_,rfl⟩:=zN.1 h;exact⟨m,rfl,rfl⟩
  have z8:∀hh,((Wi a s).map (Wv s))[i]'hh=encMv m:=fun hh=>(xF hh).2 z6;generalize Wi a s=L at *;simp only[encMv]at z6 z8
  repeat first|(refine r_ ?_;simp[z6,z8,zi])|refine q_ ?_
  exact⟨rfl,rfl⟩
 ·have zm:i=(mvS a s).length:=by simp at zl;omega
  subst zm;obtain rfl:o=none:=by unfold Wi at h;rw[zC (by simp)]at h;simpa using h.symm
  have zn:((Wi a s).map (Wv s)).take (mvS a s).length=(mvS a s).map encMv:=by unfold Wi;rw[yF,List.take_append_of_le_length (by simp),zM (by simp)];simp[Wv]
  have hle:(mvS a s).length≤(Wi a s).length:=by omega
  repeat first|(refine r_ ?_;simp[hle])|refine q_ ?_
  rw[if_pos (fun o ho=>by cases o<;>rfl)];simp;rw[zn];have za:min (mvS a s).length (Wi a s).length=(mvS a s).length:=by omega
  rw[za];have zb:Am a s none=(mvS a s).map (·.on):=rfl;rw[zb];generalize mvS a s=P at *;refine Q6 5 70 1 rfl ?_
  simp;repeat first|(refine r_ ?_;simp)|refine q_ ?_
  refine Qm (Qb (sl':=[(4,.nils),(5,.sl 0 1 0 (0:Nat)),(21,.list (P.map encMv)),(22,.i P.length),(23,.i (0:Nat))]) ?_ (by simp));refine Ql (P:=Tryz.prog) (F:=fun(u:Nat×Nat×List AObj)=>⟨[(4,.nils),(5,.sl u.2.1 1 0 u.1),(21,.list (P.map encMv)),(22,.i P.length),(23,.i u.1)],u.2.2⟩)
   (fun u=>u.1≤P.length∧u.2.2[u.2.1]? =some (.arr 70 1 ((P.take u.1).map fun m=>encP m.on))) (fun u=>P.length - u.1) ?_ (0,0,_) ⟨xA _,by simp⟩
  rintro⟨j,q,G⟩ ⟨hj,gq⟩ ih;simp only at hj gq ih ⊢;repeat first|(refine r_ ?_;simp)|refine q_ ?_
  refine Qa rfl (fun zc=> ?_) (fun zd=> ?_)
  ·have z1:j<P.length:=by simpa using zc
   have zo:IntKind.i64.wrap ((j:Int)+1)=j+1:=wrap_i64 _ (by omega) (by omega);have ze:(P.take (j+1)).map (fun m=>encP m.on)=(P.take j).map (fun m=>encP m.on)++[encP P[j].on]:=by rw[zJ z1,yF];rfl
   have zf:=fun q' G'=>ih (j+1,q',G');simp only[ze]at zf;have z6:(P.map encMv)[j]? =some (encMv P[j]):=by simp[z1]
   have z8:∀hh,(P.map encMv)[j]'hh=encMv P[j]:=fun hh=>by simp
   have zg:((P.take j).map fun m=>encP m.on).length=j:=by simp;omega
   clear ze;generalize (P.take j).map (fun m=>encP m.on)=acc at *
   generalize P[j]=m at *;simp only[encMv]at z6 z8
   repeat first|(refine r_ ?_;simp[z6,z8,z1])|refine q_ ?_
   refine Qf tOk rfl rfl T87 rfl T70 rfl (by decide) (by decide) rfl rfl rfl ?_;simp[Qc gq,Qj gq,zg];refine⟨by simp[Wp,Qc gq,Qj gq,zg]<;>omega,?_⟩;repeat first|(refine r_ ?_;simp[zo])|refine q_ ?_
   refine Qb (sl':=[(4,.nils),(5,.sl (G.length+2) 1 0 (j+1)),(21,.list (P.map encMv)),(22,.i P.length),(23,.i (j+1:Nat))]) ?_ (by simp);refine zf (G.length+2) _ ⟨by omega,?_⟩ (by omega);rw[zC (by simp)];simp[encP]
  ·have zp:j=P.length:=by simp at zd;omega
   subst zp;rw[zZ]at gq;have zq:P.map (fun m=>encP m.on)=(P.map (·.on)).map encP:=by rw[List.map_map];rfl
   rw[zq]at gq;repeat first|(refine r_ ?_;simp[gq])|refine q_ ?_
   refine⟨rfl,?_⟩;rw[zM (by simp)]
end Go.Abs
namespace Go.Abs
open Go Go.Proofs Go.Maps Go.RowKit
attribute [simp] T25 T35
theorem q03(a b:Aut):PC Tryz.prog 126 [encA a,encA b] (fun r=>r= .i (Es a b)):=by
 refine Qh tOk Tryz.func126 rfl Tryz.results126 rfl (by simp[Tryz.ntmps126]) ?_;rw[Tryz.ntmps126];simp only[Qe];have cA:=U1 a;have cB:=U1 b;simp only[encA]at cA cB ⊢;obtain⟨R,hR⟩:∃R,Es a b=R:=⟨_,rfl⟩
 rw[hR];unfold Es at hR;have w1:IntKind.i64.wrap 1=1:=by decide
 have w2:IntKind.i64.wrap 2=2:=by decide
 repeat first|(refine r_ ?_;simp)|refine q_ ?_
 refine Qt 2 (fun j=>j=0∨Wj a=0∧(j=1∨Wj b=0)) (fun j=>[(2,.vptr 0 0),(3,.vptr 1 0),(10,.sl 2 3 0 2),(11,.i (2:Nat)),(12,.i j)]) (fun _=>[.vars (Qo a),.vars (Qo b),.arr 25 3 [.agg (Qo a),.agg (Qo b)]]) rfl (by simp) (by simp) (by simp) (by simp) (.inl rfl) ?_;intro j hj hI ih;repeat first|(refine r_ ?_;simp)|refine q_ ?_
 refine Qa rfl (fun z8=> ?_) (fun za=> ?_)
 ·have z1:j<2:=by simp at z8;omega
  obtain rfl|rfl:j=0∨j=1:=by omega
  ·repeat first|(refine r_ ?_;simp)|refine q_ ?_
   refine Qd rfl rfl (by simp) (cA) rfl ?_;rintro _ rfl;simp;repeat first|(refine r_ ?_;simp)|refine q_ ?_
   refine Qa rfl (fun h=> ?_) (fun h=> ?_)
   ·rw[if_pos (by simpa using h)]at hR;subst hR;repeat first|(refine r_ ?_;simp)|refine q_ ?_
   ·repeat first|(refine r_ ?_;simp[w1])|refine q_ ?_
    refine Qq _ (ih z1 (.inr ⟨by simpa using h,.inl rfl⟩)) rfl (by simp) ?_ (by simp) (by simp);simp
  ·have h0:Wj a=0:=by rcases hI with h|h;exact absurd h (by decide);exact h.1
   rw[if_neg (by simpa using h0)]at hR;repeat first|(refine r_ ?_;simp)|refine q_ ?_
   refine Qd rfl rfl (by simp) (cB) rfl ?_;rintro _ rfl;simp;repeat first|(refine r_ ?_;simp)|refine q_ ?_
   refine Qa rfl (fun h=> ?_) (fun h=> ?_)
   ·rw[if_pos (by simpa using h)]at hR;subst hR;repeat first|(refine r_ ?_;simp)|refine q_ ?_
   ·repeat first|(refine r_ ?_;simp[w2])|refine q_ ?_
    refine Qq _ (ih z1 (.inr ⟨h0,.inr (by simpa using h)⟩)) rfl (by simp) ?_ (by simp) (by simp);simp
 ·have z6:j=2:=by simp at za;omega
  subst z6;have z7:Wj a=0∧Wj b=0:=by
   rcases hI with h|⟨h1,h2⟩
   ·exact absurd h (by decide)
   ·exact⟨h1,h2.elim (fun h=>absurd h (by decide)) id⟩
  rw[if_neg (by simpa using z7.1),if_neg (by simpa using z7.2)]at hR;repeat first|(refine r_ ?_;simp)|refine q_ ?_
  refine Qa rfl (fun h=> ?_) (fun h=> ?_)
  ·rw[if_pos (by simpa using h)]at hR;subst hR;repeat first|(refine r_ ?_;simp)|refine q_ ?_
  ·rw[if_neg (by simpa using h)]at hR;subst hR;repeat first|(refine r_ ?_;simp)|refine q_ ?_
theorem q0b{n j:Nat}(h:j≤n){p:Int→Bool}(hp:∀i:Nat,i<j→p i=true)(hn:j=n∨p j=false):(Wt n).all p=decide (j=n):=by
 rw[xR,List.all_eq_true,decide_eq_true_eq];constructor
 ·intro k;rcases hn with e|e
  ·exact e
  ·by_cases e2:j=n
   ·exact e2
   ·have:=k j (Wz.2 ⟨by omega,by omega⟩);rw[e]at this;cases this
 ·intro e z hz;obtain⟨h0,h1⟩:=Wz.1 hz;obtain⟨i,rfl⟩:=Int.eq_ofNat_of_zero_le h0;exact hp i (by omega)
def onF(a:Aut)(s:Int)(j:Nat):List Prd:=((a.mv.take j).filter fun m=>decide (m.src=s)).map (·.on)
theorem d0k(a:Aut)(s:Int):onF a s 0=[]:=by simp[onF]
theorem y1b(a:Aut)(s:Int){j:Nat}(h:j<a.mv.length):onF a s (j+1)=onF a s j++(if a.mv[j].src=s then [a.mv[j].on]else []):=by
 unfold onF;rw[Mk h,yF]
 congr 1
 split<;>rfl
theorem k1y(a:Aut)(s:Int):onF a s a.mv.length=Am a s none:=by unfold onF;rw[zZ];rfl
theorem k1f(a:Aut)(s:Int)(j:Nat):(onF a s j).length≤a.mv.length:=by unfold onF;rw[zV];exact z2t a s j
theorem y1s(y:Option Sy):z1a y= .tup [.agg [.i (y.getD ⟨0,0⟩).ty,.i (y.getD ⟨0,0⟩).num],.bool y.isSome]:=by cases y<;>rfl
attribute [local irreducible] x1g Zw Vs onF
theorem Mg(a:Aut)(ha:OkA a):PC Tryz.prog 134 [encA a] (fun r=>r= .bool (Hs a)):=by
 refine Qh tOk Tryz.func134 rfl Tryz.results134 rfl (by simp[Tryz.ntmps134]) ?_;rw[Tryz.ntmps134];simp only[Qe];have zi:=ha.fin;have zj:=ha.mvs;have hd:x1g a=(K8 a,0):=by unfold x1g;rw[if_pos ((Ob a).2 ha)]
 have cD:=f1p a;rw[hd]at cD;simp only[encA]at cD ⊢;have hL:=fun k:Int=>Cj a.types.toNat (by have:=ha.types;omega) [] (Am a k none) (fun p h=>by cases h) (fun p hp=>by
  obtain⟨m,hm,rfl⟩:=zK.1 hp;exact(ha.mv m (Ri.1 hm).1).on) (Vs a k none) (Nr ha (Ue.2 (.inl rfl)))
 have zk:((a.types.toNat:Nat):Int)=a.types:=by have:=ha.types;omega
 simp only[zk,y1s]at hL;have zl:∀k,Cv a k=(Zw (Vs a k none)).isSome:=fun _=>rfl;have z8:=k1y a;have zm:Hs a=(K8 a && (Wt a.fin.length).all fun s=> !Cv a s):=rfl;rw[zm];have zn:=fun k j (h:j<a.mv.length)=>y1b a k h;have zo:=fun k j=>k1f a k j;have hz:=d0k a;repeat first|(refine r_ ?_;simp)|refine q_ ?_
 refine Qd rfl rfl (by simp) (cD) rfl ?_;rintro _ rfl;simp;repeat first|(refine r_ ?_;simp)|refine q_ ?_
 cases hsg:K8 a with
 |false=>
  repeat first|(refine r_ ?_;simp)|refine q_ ?_
  refine Qa rfl (fun _=> ?_) (fun h=>by simp at h);repeat (first|(refine r_ ?_;simp)|refine q_ ?_)
 |true=>
  repeat first|(refine r_ ?_;simp)|refine q_ ?_
  refine Qa rfl (fun h=>by simp at h) (fun _=> ?_);repeat first|(refine r_ ?_;simp)|refine q_ ?_
  refine Qm (Qb (sl':=[(1,.vptr 0 0),(24,.i a.fin.length),(25,.i (0:Nat))]) ?_ (by simp));refine Ql (P:=Tryz.prog) (F:=fun(u:Nat×List AObj)=>⟨[(1,.vptr 0 0),(24,.i a.fin.length),(25,.i u.1)],u.2⟩)
   (fun u=>u.1≤a.fin.length∧(∀i:Nat,i<u.1→(!Cv a i)=true)∧u.2[0]? =some (.vars (Qo a))) (fun u=>a.fin.length - u.1) ?_ (0,_) ⟨xA _,fun i h=>absurd h (tA _),rfl⟩
  rintro⟨k,G⟩ ⟨hk,hI,g0⟩ ih;simp only at hk hI g0 ih ⊢;repeat first|(refine r_ ?_;simp)|refine q_ ?_
  refine Qa rfl (fun zp=> ?_) (fun zq=> ?_)
  ·have zr:k<a.fin.length:=by simpa using zp
   have hw:IntKind.i64.wrap ((k:Int)+1)=k+1:=wrap_i64 _ (by omega) (by omega);have zt:=zn k;have zu:=zo k;have zv:=hL k;repeat first|(refine r_ ?_;simp[g0])|refine q_ ?_
   refine Q6 6 70 1 rfl ?_;simp;have hst:=SL.start G 70 1;refine Qm (Qb (sl':=[(1,.vptr 0 0),(5,.i k),(6,.sl G.length 1 0 (onF a k 0).length),(24,.i a.fin.length),(25,.i k),(29,.list (a.mv.map encMv)),(30,.i a.mv.length),(31,.i (0:Nat))]) ?_ (by simp[hz]));refine Ql (P:=Tryz.prog) (F:=fun(u:Nat×Nat×List AObj)=>⟨[(1,.vptr 0 0),(5,.i k),(6,.sl u.2.1 1 0 (onF a k u.1).length),(24,.i a.fin.length),(25,.i k),(29,.list (a.mv.map encMv)),(30,.i a.mv.length),(31,.i u.1)],u.2.2⟩)
    (fun u=>u.1≤a.mv.length∧SL G u.2.2 u.2.1 70 1 ((onF a k u.1).map encP)) (fun u=>a.mv.length - u.1) ?_ (0,G.length,_) ⟨xA _,by rw[hz];simpa using hst⟩
   rintro⟨j,q,E⟩ ⟨hj,g⟩ ih2;simp only at hj g ih2 ⊢;have zw:=zu j;repeat first|(refine r_ ?_;simp)|refine q_ ?_
   refine Qa rfl (fun za=> ?_) (fun zb=> ?_)
   ·have z1:j<a.mv.length:=by simpa using za
    have ze:IntKind.i64.wrap ((j:Int)+1)=j+1:=wrap_i64 _ (by omega) (by omega);have zx:=zt j z1;have z6:=fun q' G'=>ih2 (j+1,q',G');simp only[zx]at z6;have zf:(a.mv.map encMv)[j]? =some (encMv a.mv[j]):=by simp[z1]
    have zg:∀hh,(a.mv.map encMv)[j]'hh=encMv a.mv[j]:=fun hh=>by simp
    generalize a.mv[j]=m at *;generalize onF a k j=P at *
    have z7:(P.map encP).length=P.length:=by simp
    simp only[encMv]at zf zg;repeat first|(refine r_ ?_;simp[zf,zg,z1])|refine q_ ?_
    refine Qa rfl (fun h=> ?_) (fun h=> ?_)
    ·have e:m.src=k:=by simpa using h
     rw[if_pos e]at z6;repeat first|(refine r_ ?_;simp)|refine q_ ?_
     refine Qf tOk rfl rfl T87 rfl T70 rfl (by decide) (by decide) rfl rfl rfl ?_;simp[Qc g.arr,Qj g.arr,z7];refine⟨by simp[Wp,Qc g.arr,Qj g.arr,z7]<;>omega,?_⟩;repeat first|(refine r_ ?_;simp[ze])|refine q_ ?_
     refine Qb (sl':=[(1,.vptr 0 0),(5,.i k),(6,.sl (E.length+2) 1 0 (P++[m.on]).length),(24,.i a.fin.length),(25,.i k),(29,.list (a.mv.map encMv)),(30,.i a.mv.length),(31,.i (j+1:Nat))]) ?_ (by simp);have:=z6 (E.length+2) _ ⟨by omega,g.put [AObj.vars [.i m.src,.i m.dst,.list (m.on.map encL)],AObj.arr 70 1 [encP m.on]] ((P++[m.on]).map encP) rfl⟩ (by omega);simpa[encP]using this
    ·have e:m.src≠k:=by simpa using h
     rw[if_neg e,xO]at z6;repeat first|(refine r_ ?_;simp[ze])|refine q_ ?_
     refine Qb (sl':=[(1,.vptr 0 0),(5,.i k),(6,.sl q 1 0 P.length),(24,.i a.fin.length),(25,.i k),(29,.list (a.mv.map encMv)),(30,.i a.mv.length),(31,.i (j+1:Nat))]) ?_ (by simp);exact z6 q _ ⟨by omega,g.add _⟩ (by omega)
   ·have zy:j=a.mv.length:=by simp at zb;omega
    subst zy;rw[z8]at g zw ⊢;have e0:=g.kp g0;have z7:((Am a k none).map encP).length=(Am a k none).length:=by simp
    have zc:((Am a k none).map encP).take (Am a k none).length=(Am a k none).map encP:=zM (by simp);have zh:=zl k;generalize Zw (Vs a k none)=Y at *;generalize Am a k none=P at *
    repeat first|(refine r_ ?_;simp[e0])|refine q_ ?_
    refine Rn rfl rfl (by first|(simp[g.arr,zc,z7];done)|(simp[g.arr,zc,z7];rfl)) (zv) rfl ?_;rintro _ rfl;refine⟨by first|simp|rfl|trivial,?_⟩;simp[g.arr,zc,z7];cases Y with
    |some y=>
     have hf:(Wt a.fin.length).all (fun s=> !Cv a s)=false:=by rw[q0b (j:=k) (by omega) hI (.inr (by rw[zh];rfl))];simp;omega
     rw[hf];repeat first|(refine r_ ?_;simp)|refine q_ ?_
     refine Qa rfl (fun _=> ?_) (fun h=>by simp at h);repeat (first|(refine r_ ?_;simp)|refine q_ ?_)
    |none=>
     repeat first|(refine r_ ?_;simp)|refine q_ ?_
     refine Qa rfl (fun h=>by simp at h) (fun _=> ?_);repeat first|(refine r_ ?_;simp[hw])|refine q_ ?_
     refine Qb (sl':=[(1,.vptr 0 0),(24,.i a.fin.length),(25,.i (k+1:Nat))]) ?_ (by simp);refine ih (k+1,_) ⟨by omega,fun i hi=> ?_,Qc e0 _⟩ (by omega);by_cases e:i=k
     ·subst e;rw[zh];rfl
     ·exact hI i (by omega)
  ·have zd:k=a.fin.length:=by simp at zq;omega
   subst zd;have hf:(Wt a.fin.length).all (fun s=> !Cv a s)=true:=by rw[q0b (zL _) hI (.inl rfl)];simp
   rw[hf];repeat first|(refine r_ ?_;simp)|refine q_ ?_
attribute [local irreducible] Es Hs
theorem Jd(a b:Aut):PC Tryz.prog 69 [encA a,encA b] (fun r=>r= .i (E5 a b)):=by
 refine Qh tOk Tryz.func69 rfl Tryz.results69 rfl (by simp[Tryz.ntmps69]) ?_;rw[Tryz.ntmps69];simp only[Qe];obtain⟨R,hR⟩:∃R,E5 a b=R:=⟨_,rfl⟩
 rw[hR];rw[w0m]at hR;have cB:=q03 a b;have z6:Es a b=0→OkA a∧OkA b:=fun h=>⟨(Y7.1 h).1,(Y7.1 h).2.1⟩
 simp only[encA]at cB ⊢;repeat first|(refine r_ ?_;simp)|refine q_ ?_
 refine Qd rfl rfl (by simp) (cB) rfl ?_;rintro _ rfl;simp;repeat first|(refine r_ ?_;simp)|refine q_ ?_
 refine Qa rfl (fun h=> ?_) (fun h=> ?_)
 ·repeat first|(refine r_ ?_;simp)|refine q_ ?_
  have h':Es a b≠0:=by simpa using h
  rw[if_pos h']at hR;exact hR
 have h':¬Es a b≠0:=by simpa using h
 rw[if_neg h']at hR;obtain⟨ha,hb⟩:=z6 (by simpa using h);have cF:=Mg a ha;have cG:=Mg b hb;simp only[encA]at cF cG;repeat first|(refine r_ ?_;simp)|refine q_ ?_
 refine Qd rfl rfl (by simp) (cF) rfl ?_;rintro _ rfl;simp;cases z1:Hs a with
 |true=>
  repeat first|(refine r_ ?_;simp)|refine q_ ?_
  refine Qd rfl rfl (by simp) (cG) rfl ?_;rintro _ rfl;simp;cases hfb:Hs b with
  |true=>
   repeat first|(refine r_ ?_;simp)|refine q_ ?_
   refine Qa rfl (fun h=>by simp at h) (fun _=> ?_);repeat first|(refine r_ ?_;simp)|refine q_ ?_
   rw[←hR,z1,hfb];rfl
  |false=>
   repeat first|(refine r_ ?_;simp)|refine q_ ?_
   refine Qa rfl (fun _=> ?_) (fun h=>by simp at h);repeat first|(refine r_ ?_;simp)|refine q_ ?_
   rw[←hR,z1,hfb];rfl
 |false=>
  repeat first|(refine r_ ?_;simp)|refine q_ ?_
  refine Q5 rfl rfl ?_;simp;repeat first|(refine r_ ?_;simp)|refine q_ ?_
  refine Qa rfl (fun _=> ?_) (fun h=>by simp at h);repeat first|(refine r_ ?_;simp)|refine q_ ?_
  rw[←hR,if_pos (.inl z1)]
theorem Vl(a:Aut)(s:Int)(hs:inD a s):PC Tryz.prog 127 [encA a,.i s] (fun r=>r= .bool (Mb a s)):=by
 refine Qh tOk Tryz.func127 rfl Tryz.results127 rfl (by simp[Tryz.ntmps127]) ?_;rw[Tryz.ntmps127];simp only[Qe];simp only[encA];unfold Mb;by_cases h1:s= -1
 ·subst h1;repeat first|(refine r_ ?_;simp)|refine q_ ?_
 ·have hr:inS a s:=hs.resolve_left h1;obtain⟨k,rfl⟩:∃k:Nat,s=k:=⟨s.toNat,(j0l hr).2.symm⟩
  have hk:k<a.fin.length:=by have:=hr.2;omega
  have z1:((k:Int)== -1)=false:=by simp
  have z6:a.fin.getD k false=a.fin[k]:=by simp[yT,hk]
  repeat first|(refine r_ ?_;simp[z1,hk])|refine q_ ?_
end Go.Abs
