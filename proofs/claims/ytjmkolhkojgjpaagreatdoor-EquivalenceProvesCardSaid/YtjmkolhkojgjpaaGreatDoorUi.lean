/- Part Ui of the proof: steps on the way to the last part. No condition. -/
import Derived.Test.YtjmkolhkojgjpaaGreatDoorUh
import Derived.Test.YtjmkolhkojgjpaaGreatDoorUf
import Derived.Test.YtjmkolhkojgjpaaGreatDoorUc
import Derived.Test.YtjmkolhkojgjpaaGreatDoorUg
import Derived.DeepKeys4
import Derived.Test.YtjmkolhkojgjpaaGreatDoorUe
import Derived.Test.YtjmkolhkojgjpaaGreatDoorUd
set_option linter.all false
open List renaming take_succ_eq_append_getElem->zR,getElem_mem->zK,length_map->zY,take_length->yB,take_of_length_le->zT,range->yR,length_cons->yV,length_nil->tP,mem_map->zO,getElem?_map->zU,ext_getElem?->xN,getElem?_set_self->zL,getElem?_eq_some_iff->zB,getElem?_set_ne->zE,getElem?_eq_none->xD,getElem?_eq_getElem->zI,getElem_eq_iff->yH,set_set->sd,getElem?_append_right->zH,drop_eq_getElem_cons->wH,drop_length->xH,getD->yS,map_nil->wA,filter_append->vV,length_filter_le->xG,length_take->xY,append_nil->xB,getElem?_append_left->zF,map_append->yU,map_map->vX,all_eq_true->zW,flatten_append->tr,length_append->z_,map_congr_left->xC,mem_range->yT
open Nat renaming le_refl->zQ,zero_le->yW,not_lt_zero->t_,le_trans->yL
open Prod renaming ext->uo
open Option renaming map_eq_some_iff->zS
set_option maxHeartbeats 8000000
set_option linter.unusedSimpArgs false
set_option maxRecDepth 100000
open Go.Proofs.Tryz
namespace Go.Abs
open Go Go.Proofs
section
open Go.Maps Go.RowKit
attribute [simp] T43
def f1r(a b:Aut):PC prog 40 [encA a,encA b] (λr=>r= .i (E6 a b)):=by
 refine pcB func40 results40 ntmps40 ?_;simp only[Qe];have cA:=Fm a;have cB:=Fm b;simp only[encA]at cA cB |-;obtain⟨R,hR⟩:∃R,E6 a b=R:=⟨_,rfl⟩
 rw[hR];unfold E6 at hR;repeat(refine s_ ?_;simp)
 refine pcL (cA) ?_;simp;repeat(refine s_ ?_;simp)
 refine Qa rfl (λh=>?_) (λh=>?_)
 ·rw[if_pos (by simpa using h)]at hR;repeat(refine s_ ?_;simp)
  exact hR
 rw[if_neg (by simpa using h)]at hR;repeat(refine s_ ?_;simp)
 refine pcL (cB) ?_;simp;repeat(refine s_ ?_;simp)
 refine Qa rfl (λh2=>?_) (λh2=>?_)
 ·rw[if_pos (by simpa using h2)]at hR;repeat(refine s_ ?_;simp)
  exact hR
 rw[if_neg (by simpa using h2)]at hR;repeat(refine s_ ?_;simp)
 refine Qa rfl (λh3=>?_) (λh3=>?_)
 ·rw[if_pos (by simpa using h3)]at hR;subst hR;repeat(refine s_ ?_;simp)
 rw[if_neg (by simpa using h3)]at hR;subst hR;repeat(refine s_ ?_;simp)
attribute [local irreducible] E6 Y8
def v0d{α:Type}{p:α->Bool}{l:List α}{j:Nat}(h:j<l.length)(h1:(l.take j).all p=true):(l.take (j+1)).all p=p l[j]:=by rw[zR h,List.all_append,h1];simp
def all_false{α:Type}{p:α->Bool}{l:List α}{j:Nat}(h:j<l.length)(h1:p l[j]=false):l.all p=false:=by rw[List.all_eq_false];exact⟨_,zK h,by rw[h1];simp⟩
attribute [local irreducible] q0p
def Be(x:EqC):AV:= .agg [.i x.verdict,LQp x.pairs,LSy x.word]
def f1l(a b:Aut)(x:EqC):Int:=if 2048<x.pairs.length\/4096<x.word.length then 5 else if x.pairs.all (λs=>decide (inS a s.1/\inS b s.2))=false then 6 else Lm a.types x.word
def k1h(n:Nat)(z:Int):(z<0/\¬(0<=z/\z<(n:Int)))\/(¬z<0/\(n:Int)<=z/\¬(0<=z/\z<(n:Int)))\/(¬z<0/\¬(n:Int)<=z/\(0<=z/\z<(n:Int))):=by omega
attribute [local irreducible] Le
end
section
open Go.Maps Go.RowKit
attribute [local irreducible] E6 Ej
end
section
open Go.Maps Go.RowKit
attribute [local irreducible] Ah Q1 Xf Ez Nw P6 v2i
end
section
open Go.Maps Go.RowKit
end
section
open Go.Maps Go.RowKit
def Ge{α:Type}{l m:List α}{j:Nat}(h1:j<l.length)(h2:j<m.length)(ht:l.take j=m.take j)(e:l[j]=m[j]):l.take (j+1)=m.take (j+1):=by rw[zR h1,zR h2,ht,e]
def M1{α:Type}{l m:List α}{j:Nat}(h1:j<l.length)(h2:j<m.length)(e:l[j]≠m[j]):l≠m:=λk=>by subst k;exact e rfl
def q1i(a b:Aut)(R:Bool)(hR:R=true↔a=b):PC prog 25 [encA a,encA b] (λr=>r= .bool R):=by
 refine pcB func25 results25 ntmps25 ?_;simp only[Qe];simp only[encA];refine Wd 0 1 rfl rfl (λza=>?_);rw[zY]at za;refine Wd 0 2 rfl rfl (λzb=>?_);rw[zY]at zb;refine Wd 1 1 rfl rfl (λzc=>?_);rw[zY]at zc;refine Wd 1 2 rfl rfl (λzd=>?_);rw[zY]at zd;have z7:a≠b->R=false:=λh=>by
  cases R with
  |false=>rfl
  |true=>exact absurd (hR.1 rfl) h
 repeat(refine s_ ?_;simp)
 refine Qa rfl (λh=>?_) (λh=>?_)
 ·rw[z7 (λe=>by subst e;simp at h)];repeat(refine s_ ?_;simp)
 have h1:a.types=b.types:=by simp at h;exact h.1.1
 have h2:a.fin.length=b.fin.length:=by simp at h;omega
 have h3:a.mv.length=b.mv.length:=by simp at h;omega
 repeat(refine s_ ?_;simp)
 refine Qs a.fin.length (λj=>a.fin.take j=b.fin.take j) (λj=>[(2,.vptr 0 0),(3,.vptr 1 0),(5,.i j)]) (λ_=>[.vars (Qk a),.vars (Qk b)]) rfl (by simp) (by simp) (by simp) (by simp) (by simp) ?_;intro j hj hI ih;repeat(refine s_ ?_;simp)
 refine Qa rfl (λze=>?_) (λzl=>?_)
 ·have z1:j<a.fin.length:=by simpa using ze
  have z6:j<b.fin.length:=by omega
  have hw:=wz j (by omega);by_cases he:a.fin[j]=b.fin[j]
  ·have zf:(a.fin[j]==b.fin[j])=true:=by simpa using he
   repeat(refine s_ ?_;simp)
   refine Ql tOk mixed [] (.val 0 (.val 1 (.val 2 (.val 3 (.val 4 (.val 5 (.val 6 (.val 7 (.val 8 (.val 9 (.val 10 (.done)))))))))))) rfl (by kernel_rfl) ?_;simp[z1,z6,zf];refine Qa rfl (λh=>by simp[he]at h) (λ_=>?_);repeat(refine s_ ?_;simp[hw])
   refine Qp _ (ih z1 (Ge z1 z6 hI he)) rfl (by simp) ?_ (by simp) (by simp);simp
  have zf:(a.fin[j]==b.fin[j])=false:=by simpa using he
  rw[z7 (λe=>M1 z1 z6 he (by rw[e]))];repeat(refine s_ ?_;simp)
  refine Ql tOk mixed [] (.val 0 (.val 1 (.val 2 (.val 3 (.val 4 (.val 5 (.val 6 (.val 7 (.val 8 (.val 9 (.val 10 (.done)))))))))))) rfl (by kernel_rfl) ?_;simp[z1,z6,zf];refine Qa rfl (λ_=>?_) (λh=>by simp[he]at h);repeat(refine s_ ?_;simp)
 have zj:a.fin=b.fin:=by
  have zg:j=a.fin.length:=by simp at zl;omega
  rw[zg,yB,h2,yB]at hI;exact hI
 clear hI ih;repeat(refine s_ ?_;simp)
 refine Qs a.mv.length (λj=>a.mv.take j=b.mv.take j) (λj=>[(2,.vptr 0 0),(3,.vptr 1 0),(6,.i j)]) (λ_=>[.vars (Qk a),.vars (Qk b)]) rfl (by simp) (by simp) (by simp) (by simp) (by simp) ?_;intro j2 zp zh zm;repeat(refine s_ ?_;simp)
 refine Qa rfl (λze=>?_) (λzi=>?_)
 ·have z1:j2<a.mv.length:=by simpa using ze
  have z6:j2<b.mv.length:=by omega
  have hw:=wz j2 (by omega);have z8:=λh=>M1 (l:=a.mv) (m:=b.mv) z1 z6 h;have heq:=λh=>zm z1 (Ge z1 z6 zh h);repeat(refine s_ ?_;simp)
  obtain⟨m,hm⟩:∃m,a.mv[j2]=m:=⟨_,rfl⟩
  obtain⟨n,hn⟩:∃n,b.mv[j2]=n:=⟨_,rfl⟩
  rw[hm,hn]at z8 heq;refine q18 tOk mixed [12,13] (.val 0 (.val 1 (.val 2 (.val 3 (.val 4 (.val 5 (.val 7 (.three 6 (.val 8 (.three 9 (.two 10 (.one 11 (.one 12 (.one 13 (.done)))) 11 (.one 10 (.one 12 (.one 13 (.done))))) 10 (.two 9 (.one 11 (.one 12 (.one 13 (.done)))) 11 (.two 9 (.one 12 (.one 13 (.done))) 12 (.val 9 (.one 13 (.done))))) 11 (.two 9 (.one 10 (.one 12 (.one 13 (.done)))) 10 (.two 9 (.one 12 (.one 13 (.done))) 12 (.val 9 (.one 13 (.done))))))) 10 (.two 6 (.val 8 (.two 9 (.one 11 (.one 12 (.one 13 (.done)))) 11 (.two 9 (.one 12 (.one 13 (.done))) 12 (.val 9 (.one 13 (.done)))))) 11 (.two 6 (.val 8 (.two 9 (.one 12 (.one 13 (.done))) 12 (.val 9 (.one 13 (.done))))) 12 (.val 6 (.val 8 (.val 9 (.one 13 (.done))))))) 11 (.two 6 (.val 8 (.two 9 (.one 10 (.one 12 (.one 13 (.done)))) 10 (.two 9 (.one 12 (.one 13 (.done))) 12 (.val 9 (.one 13 (.done)))))) 10 (.two 6 (.val 8 (.two 9 (.one 12 (.one 13 (.done))) 12 (.val 9 (.one 13 (.done))))) 12 (.val 6 (.val 8 (.val 9 (.one 13 (.done))))))))))))))) (⟨[(2,.vptr 0 0),(3,.vptr 1 0),(6,.i j2),(7,.vptr 2 0),(8,.vptr 3 0)],[.vars (Qk a),.vars (Qk b),.vars [.i m.src,.i m.dst,.list (m.on.map encL)],.vars [.i n.src,.i n.dst,.list (n.on.map encL)]]⟩) rfl (by kernel_rfl) ?_ ?_;simp[z1,z6,hm,hn]
  ·repeat' apply And.intro
   all_goals first|(refine u0g ?_;simp;done)|exact w14 [0,1,3,2] (by simp) (by decide) (by simp) rfl (by simp) (by simp) (by simp)
  by_cases e1:m.src=n.src
  rotate_left
  ·have g1:(m.src != n.src)=true:=by simpa using e1
   have f1:(m.src==n.src)=false:=by simpa using e1
   rw[z7 (λe=>z8 (λk=>e1 (by rw[k])) (by rw[e]))];repeat(refine s_ ?_;simp[f1,g1])
   refine Qx rfl rfl ?_;simp;repeat(refine s_ ?_;simp)
   refine Qa rfl (λ_=>?_) (λh=>by simp at h);repeat(refine s_ ?_;simp)
  have g1:(m.src != n.src)=false:=by simpa using e1
  have f1:(m.src==n.src)=true:=by simpa using e1
  by_cases e2:m.dst=n.dst
  rotate_left
  ·have g2:(m.dst != n.dst)=true:=by simpa using e2
   have f2:(m.dst==n.dst)=false:=by simpa using e2
   rw[z7 (λe=>z8 (λk=>e2 (by rw[k])) (by rw[e]))];repeat(refine s_ ?_;simp[f1,f2,g1,g2])
   refine Qx rfl rfl ?_;simp;repeat(refine s_ ?_;simp)
   refine Qa rfl (λ_=>?_) (λh=>by simp at h);repeat(refine s_ ?_;simp)
  have g2:(m.dst != n.dst)=false:=by simpa using e2
  have f2:(m.dst==n.dst)=true:=by simpa using e2
  repeat(refine s_ ?_;simp[f1,f2,g1,g2])
  refine pcL (d0c m.on n.on) ?_;simp;by_cases e3:m.on=n.on
  ·have zn:m=n:=by cases m;cases n;simp only at e1 e2 e3;rw[e1,e2,e3]
   rw[decide_eq_true e3];repeat(refine s_ ?_;simp)
   refine Qa rfl (λh=>by simp at h) (λ_=>?_);repeat(refine s_ ?_;simp[hw])
   refine Qp _ (heq zn) rfl (by simp) ?_ (by simp) (by simp);simp
  rw[decide_eq_false e3,z7 (λe=>z8 (λk=>e3 (by rw[k])) (by rw[e]))];repeat(refine s_ ?_;simp)
  refine Qa rfl (λ_=>?_) (λh=>by simp at h);repeat(refine s_ ?_;simp)
 have zk:a.mv=b.mv:=by
  have zg:j2=a.mv.length:=by simp at zi;omega
  rw[zg,yB,h3,yB]at zh;exact zh
 have zo:a=b:=by cases a;cases b;simp only at h1 zj zk;rw[h1,zj,zk]
 rw[hR.2 zo];repeat(refine s_ ?_;simp)
end
section
open Go.Maps Go.RowKit
attribute [local irreducible] Tm Fc Y2 z0p E6 Uz v2i Ej
end
section
open Go.Maps Go.RowKit
def v2x(a b a' b':Int):eqA T 9 52 (.agg [.int .i64 a,.int .i64 b]) (.agg [.int .i64 a',.int .i64 b'])=some (a==a' && b==b'):=by simp[eqA,Y1,Sn,TI.agg]
def v2b{a b:List Sy}{j:Nat}(h1:j<a.length)(h2:j<b.length)(h:a.take j=b.take j)(e:a[j]=b[j]):a.take (j+1)=b.take (j+1):=by rw[zR h1,zR h2,h,e]
def Zq(a b:List Sy):PC prog 26 [LSy a,LSy b] (λr=>r= .bool (decide (a=b))):=by
 refine pcB func26 results26 ntmps26 ?_;simp only[Qe];refine Yb 0 rfl (λhlen=>?_);rw[zY]at hlen;repeat(refine s_ ?_;simp)
 refine Qa rfl (λh=>?_) (λh1=>?_)
 ·repeat(refine s_ ?_;simp)
  rintro rfl;simp at h
 have hl:a.length=b.length:=by simp at h1;omega
 repeat(refine s_ ?_;simp)
 refine Qs a.length (λj=>a.take j=b.take j) (λj=>[(0,LSy a),(1,LSy b),(12,.i a.length),(13,.i j)]) (λ_=>[]) rfl (by simp) (by simp) (by simp) (by simp) (by simp) ?_;intro j hj hI ih;repeat(refine s_ ?_;simp)
 refine Qa rfl (λz8=>?_) (λza=>?_)
 ·have z1:j<a.length:=by simpa using z8
  have z6:j<b.length:=by omega
  repeat(refine s_ ?_;simp)
  refine Ql tOk mixed [] (.val 0 (.val 1 (.val 2 (.val 3 (.val 4 (.val 5 (.val 6 (.val 7 (.val 8 (.done)))))))))) rfl (by kernel_rfl) ?_;simp[z1,z6,v2x];refine Qa rfl (λh=>?_) (λh=>?_)
  ·repeat(refine s_ ?_;simp)
   rintro rfl;simp at h
  repeat(refine s_ ?_;simp)
  have he:a[j]=b[j]:=by
   have h2:a[j].ty=b[j].ty/\a[j].num=b[j].num:=by simpa using h
   cases ha:a[j];cases hb:b[j];rw[ha,hb]at h2;simp only at h2;rw[h2.1,h2.2]
  refine Qp _ (ih z1 (v2b z1 z6 hI he)) rfl (by simp) ?_ (by simp) (by simp);simp;exact wrap_i64 _ (by omega) (by omega)
 have z7:j=a.length:=by simp at za;omega
 subst z7;repeat(refine s_ ?_;simp)
 rw[zT (zQ _),zT (by omega)]at hI;exact hI
end
section
open Go.Maps Go.RowKit
def Xw(lo hi:Int):PC prog 145 [.i lo,.i hi] (λr=>r=encP [[⟨lo,hi⟩]]):=by refine pcB func145 results145 ntmps145 ?_;simp only[Qe];refine Eo (Ra tOk rfl ?_);simp;refine Eo (Ra tOk rfl ?_);simp;refine I7 1 (e:=144) (c:=2) (xs:=[encIv ⟨lo,hi⟩]) rfl 2 (o0:= .va 145 1 [.sl 1 2 0 1]) rfl (by decide) rfl ?_;simp[AObj.fz,AV.fz];refine Pq 2 rfl (by simp[AV.cells,AV.pure]) ?_;simp;refine Q6 2 (e:=145) (c:=1) (xs:=[encL [⟨lo,hi⟩]]) rfl 0 rfl ?_;simp;repeat(refine s_ ?_;simp)
def w0h:PC prog 79 [] (λr=>r= .tup [encA exQ,encA exR]):=by
 refine pcB func79 results79 ntmps79 ?_;simp only[Qe];have z1:yR 2=[0,1]:=rfl;have z6:yR 4=[0,1,2,3]:=rfl;repeat(refine s_ ?_;simp[z1,z6])
 refine pcL (Xw (-1099511627776) 1099511627776) ?_;simp[z1,z6];refine pcL (Xw (-1099511627776) 4) ?_;simp[z1,z6];refine pcL (Xw 5 1099511627776) ?_;simp[z1,z6];repeat(refine s_ ?_;simp[z1,z6])
 refine Qn (sl':=[(0,.vptr 0 0),(1,.vptr 1 0),(5,.vptr 7 0),(6,.vptr 10 0)]) ?_ (by simp);refine Q6 5 (e:=4) (c:=1) (xs:=[.bool false,.bool true]) rfl 7 rfl ?_;simp;refine Q6 8 (e:=4) (c:=1) (xs:=[.bool false,.bool true]) rfl 10 rfl ?_;simp;refine Q6 6 (e:=73) (c:=3) (xs:=exQ.mv.map encMv) rfl 7 rfl ?_;have z7:exQ.mv.length=2:=rfl;have z8:exR.mv.length=4:=rfl;simp[z7];refine Q6 9 (e:=73) (c:=3) (xs:=exR.mv.map encMv) rfl 10 rfl ?_;simp[z8];rw[zT (by simp[z7]),zT (by simp[z8])];refine Sw tOk mixed [2,3] (.val 0 (.two 1 (.one 2 (.one 3 (.done))) 2 (.val 1 (.one 3 (.done))))) rfl (by kernel_rfl) ?_;simp;repeat(refine s_ ?_;simp)
 exact⟨⟨rfl,rfl⟩,rfl,rfl⟩
end
section
open Go.Maps Go.RowKit
attribute [simp] y2f d2j d2g
def v0p:(prog).underlying 66=some (.array 2 3):=by kernel_rfl
def y2a:(prog).underlying 3=some (.int .i64):=by kernel_rfl
def y0n:(prog).cellsOf 66=2:=by kernel_rfl
def v1a:(prog).cellsOf 3=1:=by kernel_rfl
def z2x:(prog).keyType 66=true:=by kernel_rfl
def x29:laidOutB prog=true:=by kernel_rfl
def q22:(prog).keyTypeAt 3 66=true:=by kernel_rfl
def d1y:66<(prog).types.size:=of_decide_eq_true (by kernel_rfl)
def Jq:Keyed prog 66:=Keyed.of_law (deep_law_laid x29 (m:=3) (by decide) d1y q22 (by rw[v0p]))
def okQ(s:Int×Int):Prop:=(-1<=s.1/\s.1<=1000000)/\(-1<=s.2/\s.2<=1000000)
def x2u{s t:Int×Int}(h:pqr s=pqr t):s=t:=by unfold pqr at h;simp at h;exact uo h.1 h.2
def z2h{z:Int}(h: -1<=z/\z<=1000000):(Lit.int .i64 z).wf=true:=by
 have h1:IntKind.i64.min= -9223372036854775808:=by decide
 have h2:IntKind.i64.max=9223372036854775807:=by decide
 simp only[Lit.wf,h1,h2,Bool.and_eq_true,decide_eq_true_eq];omega
def q1a(d:Nat){z:Int}(h: -1<=z/\z<=1000000):(prog).keyLits (d+1) 3 [.int .i64 z]=some [.int .i64 z]:=by unfold Program.keyLits;rw[y2a];simp[z2h h]
def u2h(d:Nat){s:Int×Int}(h:okQ s):(prog).keyLits (d+2) 66 [.int .i64 s.1,.int .i64 s.2]=some [.int .i64 s.1,.int .i64 s.2]:=by unfold Program.keyLits;rw[v0p];simp only[y0n,v1a,yV,tP,if_true];have h1:=q1a d h.1;have h2:=q1a d h.2;simp[List.range_succ,h1,h2]
def Pz{s:Int×Int}(h:okQ s):isKey prog 66 (pqr s):=by
 refine⟨.agg #[.int .i64 s.1,.int .i64 s.2],.string (keyBytes [.int .i64 s.1,.int .i64 s.2]),rfl,?_⟩;obtain⟨d,hd⟩:∃d,(prog).types.size+1=d+2:=⟨(prog).types.size - 1,by have:=d1y;omega⟩
 unfold keyOf;rw[v0p];simp only;have hf:Value.formed prog 66 (.agg #[.int .i64 s.1,.int .i64 s.2])=true:=by unfold Value.formed;rw[v0p,y0n];rfl
 rw[z2x,hf,hd];have:(Value.agg #[.int .i64 s.1,.int .i64 s.2]).cells.toList=[.int .i64 s.1,.int .i64 s.2]:=rfl;rw[this,u2h d h];rfl
def kvQ(l:List (Int×Int)):List (AV×AV):=l.map λs=>(pqr s,.bool true)
def stQ(l:List (Int×Int)):AObj:= .mp (kvQ l)
def Xz{l:List (Int×Int)}(h:∀s∈l,okQ s):∀p∈kvQ l,isKey prog 66 p.1:=λp hp=>by obtain⟨e,he,rfl⟩:=zO.1 hp;exact Pz (h e he)
def Vt{l:List (Int×Int)}{j:Nat}{p:AV×AV}{s:Int×Int}(hp:(kvQ l)[j]?=some p)(he:p.1=pqr s):s∈l/\p.2= .bool true:=by unfold kvQ at hp;rw[zU]at hp;obtain⟨m,hm,rfl⟩:=zS.1 hp;have z1:m=s:=x2u he;exact⟨by rw[<-z1];exact List.mem_of_getElem? hm,rfl⟩
section
variable {nt k:Nat} {S:AS} {ops:Array Oper} {o:Oper} {R:AS->Prop}
def w0b {wr:Bool} (hw:Qt ops S o=some true) (hd:Wq nt o=true) {x ix:Operand} (ho:o.op= .lookup 174 x ix false) {id:Nat} (hx:rho S.sl x=some (.mref id)) {s:Int×Int} (z1:rho S.sl ix=some (.agg [.i s.1,.i s.2]))
  {l:List (Int×Int)} (z6:S.hp[id]?=some (stQ l)) (hl:∀m∈l,okQ m) (hn:okQ s) (hR:R (S.putD o.dst (.bool (decide (s∈l))))):Wb prog nt k wr ops o S R:=by
 refine Gq tOk hw hd ho y2f rfl T4 Jq hx z1 z6 (Pz hn) (Xz hl) (z:= .bool false) rfl (λj p hp he=>?_) (λz7=>?_)
 ·obtain⟨h1,h2⟩:=Vt hp he;rw[decide_eq_true h1]at hR;rw[h2];exact hR
 rw[decide_eq_false (λh=>z7 (pqr s,.bool true) (zO.2 ⟨s,h,rfl⟩) rfl)]at hR;exact hR
def Gj {wr:Bool} (hw:Qt ops S o=some true) (hd:Wq nt o=true) {x ix:Operand} (ho:o.op= .lookup 174 x ix false) {id:Nat} (hx:rho S.sl x=some (.mref id)) {s:Int×Int} (z1:rho S.sl ix=some (.agg [.i s.1,.i s.2]))
  {l:List (Int×Int)} (z6:S.hp[id]?=some (.fm (kvQ l))) (hl:∀m∈l,okQ m) (hn:okQ s) (hR:R (S.putD o.dst (.bool (decide (s∈l))))):Wb prog nt k wr ops o S R:=by
 refine Vc tOk hw hd ho y2f rfl T4 Jq hx z1 z6 (Pz hn) (Xz hl) (z:= .bool false) rfl (λj p hp he=>?_) (λz7=>?_)
 ·obtain⟨h1,h2⟩:=Vt hp he;rw[decide_eq_true h1]at hR;rw[h2];exact hR
 rw[decide_eq_false (λh=>z7 (pqr s,.bool true) (zO.2 ⟨s,h,rfl⟩) rfl)]at hR;exact hR
def Lz (hw:Qt ops S o=some true) (hd:Wq nt o=true) {x ix y:Operand} (ho:o.op= .mapUpdate 174 x ix y) {id:Nat} (hx:rho S.sl x=some (.mref id)) {s:Int×Int} (z1:rho S.sl ix=some (.agg [.i s.1,.i s.2])) (hy:rho S.sl y=some (.bool true))
  {l:List (Int×Int)} (z6:S.hp[id]?=some (stQ l)) (hl:∀m∈l,okQ m) (hn:okQ s) (z7:s∉l) (hR:R (({ S with hp:=S.hp.set id (stQ (l++[s])) }:AS).putD o.dst (.tup []))):Wb prog nt k true ops o S R:=by
 refine Ep tOk hw hd ho y2f rfl Jq hx z1 hy (by simp[AV.pure]) z6 (Pz hn) (Xz hl) (λj p hp he=>?_) (λz8=>?_)
 ·exact absurd (Vt hp he).1 z7
 have:kvQ l++[(pqr s,.bool true)]=kvQ (l++[s]):=by simp[kvQ]
 unfold stQ at hR;rw[<-this]at hR;exact hR
def w01 (hw:Qt ops S o=some true) (hd:Wq nt o=true) {x ix y:Operand} (ho:o.op= .mapUpdate 174 x ix y) {id:Nat} (hx:rho S.sl x=some (.mref id)) {s:Int×Int} (z1:rho S.sl ix=some (.agg [.i s.1,.i s.2])) (hy:rho S.sl y=some (.bool true))
  {l:List (Int×Int)} (z6:S.hp[id]?=some (stQ l)) (hl:∀m∈l,okQ m) (hn:okQ s) (hR:R (({ S with hp:=S.hp.set id (stQ (adQ l s)) }:AS).putD o.dst (.tup []))):Wb prog nt k true ops o S R:=by
 by_cases hm:s∈l
 ·rw[u2k hm]at hR;refine Ep tOk hw hd ho y2f rfl Jq hx z1 hy (by simp[AV.pure]) z6 (Pz hn) (Xz hl) (λj p hp he=>?_) (λz7=>?_)
  ·obtain⟨h1,h2⟩:=Vt hp he;have:(kvQ l).set j (pqr s,.bool true)=kvQ l:=by
    refine xN λi=>?_;by_cases hi:i=j
    ·subst hi;rw[zL (zB.1 hp).1,hp]
     congr 1
     exact uo he.symm h2.symm
    rw[zE (Ne.symm hi)]
   unfold stQ at hR;rw[<-this]at hR;exact hR
  exact absurd rfl (z7 (pqr s,.bool true) (zO.2 ⟨s,hm,rfl⟩))
 rw[w2g hm]at hR;exact Lz hw hd ho hx z1 hy z6 hl hn hm hR
def u08 (hw:Qt ops S o=some true) (hd:Wq nt o=true) {x ix y:Operand} (ho:o.op= .insert 174 x ix y) {id:Nat} (hx:rho S.sl x=some (.mref id)) {s:Int×Int} (z1:rho S.sl ix=some (.agg [.i s.1,.i s.2])) (hy:rho S.sl y=some (.bool true))
  (z6:S.hp[id]?=some (.mp [])) (hn:okQ s) (hR:R (({ S with hp:=S.hp.set id (stQ [s]) }:AS).putD o.dst (.tup []))):Wb prog nt k true ops o S R:=by
 refine O3 tOk hw hd ho y2f rfl Jq hx z1 hy (by simp[AV.pure]) z6 (Pz hn) (λp hp=>by cases hp) (λj p hp he=>by cases hp) (λz7=>?_);exact hR
end
def j1s(xs ys:List Sy)(i:Nat):Prop:=ys.length=xs.length/\∀p,p<xs.length->ys[p]? =if p<i\/xs.length - i<=p then xs[xs.length - 1 - p]? else xs[p]?
def j1s.done{xs ys:List Sy}{i:Nat}(h:j1s xs ys i)(hi:xs.length<=2 * i+1):ys=xs.reverse:=by
 refine xN λp=>?_;by_cases hp:p<xs.length
 ·rw[h.2 p hp,List.getElem?_reverse hp];split
  ·rfl
  rename_i hn
  congr 1;omega
 rw[xD (by rw[h.1];omega),xD (by simp;omega)]
def j1s.start(xs:List Sy):j1s xs xs 0:=⟨rfl,λp hp=>by rw[if_neg (by omega)]⟩
def j1s.step{xs ys:List Sy}{i:Nat}(h:j1s xs ys i)(hi:2 * i+1<xs.length){x y:Sy}(hx:ys[i]?=some x)(hy:ys[xs.length - 1 - i]?=some y):j1s xs ((ys.set i y).set (xs.length - 1 - i) x) (i+1):=by
 refine⟨by simp[h.1],λp hp=>?_⟩;have h1:=h.2 i (by omega);rw[if_neg (by omega),hx]at h1;have h2:=h.2 (xs.length - 1 - i) (by omega);rw[if_neg (by omega),hy]at h2;by_cases e1:p=xs.length - 1 - i
 ·subst e1;rw[zL (by simp[h.1];omega),if_pos (by omega),show xs.length - 1 - (xs.length - 1 - i)=i by omega];exact h1
 rw[zE (Ne.symm e1)];by_cases e2:p=i
 ·subst e2;rw[zL (by rw[h.1];omega),if_pos (by omega)];exact h2
 rw[zE (Ne.symm e2),h.2 p hp];by_cases e3:p<i\/xs.length - i<=p
 ·rw[if_pos e3,if_pos (by omega)]
 rw[if_neg e3,if_neg (by omega)]
def Bn(H:List AObj)(p:Nat)(xs:List Sy)(hp:H[p]?=some (.arr 52 2 (xs.map encSy)))(hl:xs.length<=1000000):FC prog 189 [.sl p 2 0 xs.length] H (λr H'=>r= .tup []/\H'=H.set p (.arr 52 2 (xs.reverse.map encSy))):=by
 refine fcB func189 results189 ntmps189 ?_;simp only[Qe];have zc:=Qf hp;have ze:IntKind.i64.wrap ((xs.length:Int) - 1)=(xs.length:Int) - 1:=wrap_i64 _ (by omega) (by omega);have z6:H.set p (.arr 52 2 (xs.map encSy))=H:=by
  refine xN λi=>?_;by_cases e:i=p
  ·subst e;rw[zL zc,hp]
  rw[zE (Ne.symm e)]
 repeat(refine s_ ?_;simp[ze])
 refine Qj (Qc (sl':=[(0,.sl p 2 0 xs.length),(2,.i (0:Nat)),(3,.i ((xs.length:Int) - 1))]) ?_ (by simp));refine Qi (P:=prog) (F:=λ(u:Nat×Int×List Sy×List AObj)=>⟨[(0,.sl p 2 0 xs.length),(2,.i u.1),(3,.i u.2.1)],u.2.2.2⟩)
  (λu=>u.1<=xs.length/\u.2.1=(xs.length:Int) - 1 - u.1/\j1s xs u.2.2.1 u.1/\u.2.2.2=H.set p (.arr 52 2 (u.2.2.1.map encSy))) (λu=>xs.length - u.1) ?_ (0,(xs.length:Int) - 1,xs,H) ⟨yW _,by simp,j1s.start xs,z6.symm⟩
 rintro⟨i,m,ys,G⟩ ⟨hi,hm,hr,hG⟩ ih;simp only at hi hm hr hG ih |-;repeat(refine s_ ?_;simp)
 refine Qa rfl (λzf=>?_) (λzg=>?_)
 ·have zh:(i:Int)<m:=by simpa using zf
  obtain⟨k,rfl⟩:∃k:Nat,m=k:=⟨m.toNat,by omega⟩
  have hk:k=xs.length - 1 - i:=by omega
  have zi:i<k:=by omega
  have zj:k<xs.length:=by omega
  have z7:i<xs.length:=by omega
  have zk:=wz i (by omega);have zl:IntKind.i64.wrap ((k:Int) - 1)=(k:Int) - 1:=wrap_i64 _ (by omega) (by omega);have zr:=hr.1;obtain⟨x,hx⟩:∃x,ys[i]?=some x:=⟨_,zI (by omega)⟩
  obtain⟨y,hy⟩:∃y,ys[k]?=some y:=⟨_,zI (by omega)⟩
  have hst:=hr.step (by omega) hx (by rw[<-hk];exact hy);rw[<-hk]at hst;have hg:G[p]?=some (.arr 52 2 (ys.map encSy)):=by rw[hG,zL zc]
  have zd:(ys.map encSy)[i]?=some (.agg [.i x.ty,.i x.num]):=by rw[zU,hx];rfl
  have z8:(ys.map encSy)[k]?=some (.agg [.i y.ty,.i y.num]):=by rw[zU,hy];rfl
  have zm:∀hh,(ys.map encSy)[i]'hh= .agg [.i x.ty,.i x.num]:=λhh=>(yH hh).2 zd;have zn:∀hh,(ys.map encSy)[k]'hh= .agg [.i y.ty,.i y.num]:=λhh=>(yH hh).2 z8;have zo:i<ys.length:=by omega
  have za:k<ys.length:=by omega
  have zp:∀z,(G.set p z)[p]?=some z:=λz=>Qh hg z;have z1:∀z,((ys.map encSy).set i z)[k]?=some (.agg [.i y.ty,.i y.num]):=λz=>by rw[zE (by omega)];exact z8
  have zb:∀z hh,((ys.map encSy).set i z)[k]'hh= .agg [.i y.ty,.i y.num]:=λz hh=>(yH hh).2 (z1 z);repeat(refine s_ ?_;simp)
  refine Ql tOk mixed [13,15] (.val 0 (.val 1 (.val 2 (.val 3 (.val 4 (.val 5 (.val 6 (.val 7 (.val 8 (.val 9 (.val 10 (.val 11 (.val 12 (.one 13 (.val 14 (.one 15 (.done))))))))))))))))) rfl (by kernel_rfl) ?_;simp[hg,zd,z8,zm,zn,zo,za,zp,z1,zi,zj,z7,zb];repeat(refine s_ ?_;simp[zk,zl])
  refine Qc (sl':=[(0,.sl p 2 0 xs.length),(2,.i (i+1:Nat)),(3,.i ((k:Int) - 1))]) ?_ (by simp);exact ih (i+1,(k:Int) - 1,(ys.set i y).set k x,_) ⟨by simp only;omega,by simp only;omega,hst,by rw[hG,sd];simp[List.map_set,encSy]⟩ (by simp only;omega)
 have zq:m<=(i:Int):=by simpa using zg
 have hd:=hr.done (by omega);subst hd;repeat(refine s_ ?_;simp)
 rw[hG,List.map_reverse]
def Fl(v:Vst):AV:= .agg [.i v.s.1,.i v.s.2,.i v.fr,.i v.on.ty,.i v.on.num,.bool v.fst]
def d1n(V:List Vst)(L:List ((Int×Int)×List Sy))(hV:VOk V L)(i:Nat)(e:(Int×Int)×List Sy)(he:L[i]?=some e)(hl:V.length<=1000000):PC prog 128 [.list (V.map Fl),.i i] (λr=>r=LSy e.2):=by
 refine pcB func128 results128 ntmps128 ?_;simp only[Qe];have ze:i<L.length:=(zB.1 he).1;have zf:=hV.len;repeat(refine s_ ?_;simp)
 refine Qz 5 52 2 rfl ?_;simp;have hst:=SL.start [] 52 2;refine Qj (Qc (sl':=[(0,.list (V.map Fl)),(1,.i i),(5,.sl 0 2 0 ([]:List Sy).length)]) ?_ (by simp));refine Qi (P:=prog) (F:=λ(u:Nat×Nat×List Sy×List AObj)=>⟨[(0,.list (V.map Fl)),(1,.i u.1),(5,.sl u.2.1 2 0 u.2.2.1.length)],u.2.2.2⟩)
  (λu=>(∃d,L[u.1]?=some d/\e.2=d.2++u.2.2.1.reverse)/\u.2.2.1.length+u.1<=i/\u.2.2.2[u.2.1]?=some (.arr 52 2 (u.2.2.1.map encSy))) (λu=>u.1) ?_ (i,0,[],_) ⟨⟨e,he,by simp⟩,by simp,by simp⟩
 rintro⟨k,q,out,G⟩ ⟨⟨d,hd,z1⟩,zc,gq⟩ ih;simp only at hd z1 zc gq ih |-;have z7:k<V.length:=by have:=(zB.1 hd).1;omega
 obtain⟨v,hv⟩:∃v,V[k]?=some v:=⟨_,zI z7⟩
 have za:=hV.way k v d hv hd;have z6:(V.map Fl)[k]?=some (Fl v):=by rw[zU,hv];rfl
 have z8:∀hh,(V.map Fl)[k]'hh=Fl v:=λhh=>(yH hh).2 z6;simp only[Fl]at z6 z8;repeat(refine s_ ?_;simp[z6,z8,z7])
 rcases za with⟨h1,h2⟩|⟨h1,h2,d',h3,h4⟩
 ·rw[h2,List.nil_append]at z1;rw[h1];refine Qa rfl (λh=>by simp at h) (λ_=>?_);repeat(refine s_ ?_;simp)
  refine Q3 rfl rfl (Bn G q out gq (by omega)) rfl ?_;rintro _ _ ⟨rfl,rfl⟩;simp;have zd:∀z,(G.set q z)[q]?=some z:=λz=>Qh gq z;have zg:out.length=e.2.length:=by rw[z1];simp
  rw[z1];repeat(refine s_ ?_;simp[zd])
  rw[zT (by simp)]
 rw[h1];refine Qa rfl (λ_=>?_) (λh=>by simp at h);have zb:(out.map encSy).length=out.length:=by simp
 repeat(refine s_ ?_;simp[z6,z8,z7])
 refine apS T26 T52 ?_;simp[Qb gq,Qg gq,zb];refine⟨by simp[Wf,Qb gq,Qg gq,zb]<;>omega,?_⟩;repeat(refine s_ ?_;simp[z6,z8,z7])
 refine Qc (sl':=[(0,.list (V.map Fl)),(1,.i v.fr),(5,.sl (G.length+1) 2 0 (out++[v.on]).length)]) ?_ (by simp);refine ih (v.fr,G.length+1,out++[v.on],_) ⟨⟨d',h3,by rw[z1,h4];simp⟩,by simp;omega,?_⟩ h2;simp only;rw[zH (by simp)];simp[encSy]
end
section
open Go.Maps Go.RowKit
def c1a(x y:Int):(if x<y then y else x)=max x y:=by omega
def y2g:Option Int->AV
 |some n=> .tup [.i n,.bool true]
 |none=> .tup [.i 0,.bool false]
def g0n(l m:List Iv)(hl:l.length<=1000000000)(hm:m.length<=1000000000):PC prog 183 [LIv l,LIv m] (λr=>r=y2g (Lp l m)):=by
 refine pcB func183 results183 ntmps183 ?_;simp only[Qe];obtain⟨R,hR⟩:∃R,Lp l m=R:=⟨_,rfl⟩
 rw[hR];repeat(refine s_ ?_;simp)
 refine Qj (Qc (sl':=[(0,LIv l),(1,LIv m),(6,.i (0:Nat)),(7,.i (0:Nat))]) ?_ (by simp));refine Qi (F:=λ(u:Nat×Nat)=>⟨[(0,LIv l),(1,LIv m),(6,.i u.1),(7,.i u.2)],[]⟩)
  (λu=>u.1<=l.length/\u.2<=m.length/\Lp (l.drop u.1) (m.drop u.2)=R) (λu=>(l.length - u.1)+(m.length - u.2)) ?_ (0,0) ⟨yW _,yW _,by simpa using hR⟩
 rintro⟨i,k⟩ ⟨hi,hk,hI⟩ ih;simp only at hi hk hI ih |-;by_cases h1:i<l.length
 ·by_cases h2:k<m.length
  ·have hw:=wz i (by omega);have z1:=wz k (by omega);rw[wH h1,wH h2,q1q]at hI;have e1:l[i]?=some l[i]:=zI h1;have e2:m[k]?=some m[k]:=zI h2;repeat(refine s_ ?_;simp[h1,h2])
   refine Qa rfl (λ_=>?_) (λh=>by simp[h1,h2]at h);repeat(refine s_ ?_;simp)
   refine Ql tOk mixed [] (.val 0 (.val 1 (.val 2 (.val 3 (.val 4 (.val 5 (.val 6 (.val 7 (.val 8 (.val 9 (.val 10 (.val 11 (.done))))))))))))) rfl (by kernel_rfl) ?_;simp[h1,h2];repeat(refine s_ ?_;simp)
   refine Ql tOk mixed [] (.val 0 (.val 1 (.val 2 (.val 3 (.val 4 (.val 5 (.val 6 (.val 7 (.val 8 (.val 9 (.val 10 (.val 11 (.val 12 (.done)))))))))))))) rfl (by kernel_rfl) ?_;simp[h1,h2];refine Qa rfl (λh=>?_) (λh=>?_)
   ·have hle:max l[i].lo m[k].lo<=min l[i].hi m[k].hi:=by simp at h;omega
    rw[if_pos hle]at hI;rw[<-hI];repeat(refine s_ ?_;simp)
    rw[c1a];rfl
   have hle:¬max l[i].lo m[k].lo<=min l[i].hi m[k].hi:=by simp at h;omega
   rw[if_neg hle]at hI;repeat(refine s_ ?_;simp)
   refine Ql tOk mixed [] (.val 0 (.val 1 (.val 2 (.val 3 (.val 4 (.val 5 (.val 6 (.val 7 (.val 8 (.val 9 (.val 10 (.done)))))))))))) rfl (by kernel_rfl) ?_;simp[h1,h2];refine Qa rfl (λh=>?_) (λh=>?_)
   ·rw[if_pos (by simpa using h)]at hI;repeat(refine s_ ?_;simp[hw])
    refine Qc (sl':=[(0,LIv l),(1,LIv m),(6,.i (i+1:Nat)),(7,.i k)]) ?_ (by simp);exact ih (i+1,k) ⟨by omega,hk,by rw[wH h2];exact hI⟩ (by simp;omega)
   rw[if_neg (by simpa using h)]at hI;repeat(refine s_ ?_;simp[z1])
   refine Qc (sl':=[(0,LIv l),(1,LIv m),(6,.i i),(7,.i (k+1:Nat))]) ?_ (by simp);exact ih (i,k+1) ⟨hi,by omega,by rw[wH h1];exact hI⟩ (by simp;omega)
  have h3:k=m.length:=by omega
  subst h3;repeat(refine s_ ?_;simp[h1])
  refine Qa rfl (λh=>by simp at h) (λ_=>?_);repeat(refine s_ ?_;simp)
  rw[xH,wH h1,Nl]at hI;rw[<-hI];rfl
 have h3:i=l.length:=by omega
 subst h3;repeat(refine s_ ?_;simp)
 refine Qa rfl (λh=>by simp at h) (λ_=>?_);repeat(refine s_ ?_;simp)
 rw[xH,y0h]at hI;rw[<-hI];rfl
def Hw:Option Sy->AV
 |some x=> .tup [encSy x,.bool true]
 |none=> .tup [encSy ⟨0,0⟩,.bool false]
def v19(p q:Prd)(f t:Nat):lqB p q (f+1) t=match Lp (p.getD t []) (q.getD t [])with|some n=>some ⟨t,n⟩|none=>lqB p q f (t+1):=rfl
attribute [local irreducible] lqB E5
def Dy(T:Nat)(p q:Prd)(hp:PWf T p)(hq:PWf T q)(z7:∀s∈p,s.length<=1000000000)(z8:∀s∈q,s.length<=1000000000)(hT:T<=1000):PC prog 120 [encP p,encP q] (λr=>r=Hw (E5 p q)):=by
 refine pcB func120 results120 ntmps120 ?_;simp only[Qe];simp only[encP];have zd:=hp.1;have ze:=hq.1;obtain⟨R,hR⟩:∃R,E5 p q=R:=⟨_,rfl⟩
 rw[hR];rw[<-f2t hp hq]at hR;repeat(refine s_ ?_;simp)
 refine Qs p.length (λi=>lqB p q (T - i) i=R) (λi=>[(2,.vptr 0 0),(3,.vptr 1 0),(4,.vptr 2 0),(11,.i p.length),(12,.i i)]) (λ_=>[.vars [.list (p.map encL)],.vars [.list (q.map encL)],.vars [.i 0,.i 0]]) rfl (by simp) (by simp) (by simp) (by simp) (by simpa using hR) ?_;intro i hi hI ih;repeat(refine s_ ?_;simp)
 refine Qa rfl (λza=>?_) (λzb=>?_)
 ·have z1:i<p.length:=by simpa using za
  have z6:i<q.length:=by omega
  have hw:=wz i (by omega);rw[show T - i=(T - (i+1))+1 by omega,v19,Wt z1,Wt z6]at hI;repeat(refine s_ ?_;simp)
  refine Ql tOk mixed [] (.val 0 (.val 1 (.val 2 (.val 3 (.val 4 (.val 5 (.val 6 (.val 7 (.val 8 (.val 9 (.one 10 (.val 11 (.val 12 (.val 13 (.val 14 (.val 15 (.done))))))))))))))))) rfl (by kernel_rfl) ?_;simp[z1,z6];refine pcL (g0n p[i] q[i] (z7 _ (zK z1)) (z8 _ (zK z6))) ?_;simp;cases hc:Lp p[i] q[i]with
  |some n=>
   rw[hc]at hI;simp[y2g];repeat(refine s_ ?_;simp)
   refine Qq rfl ?_;repeat(refine s_ ?_;simp)
   rw[<-hI];rfl
  |none=>
   rw[hc]at hI;simp[y2g];repeat(refine s_ ?_;simp)
   refine Qq rfl ?_;repeat(refine s_ ?_;simp[hw])
   refine Qp _ (ih z1 hI) rfl (by simp) ?_ (by simp) (by simp);simp
 have zc:i=p.length:=by simp at zb;omega
 subst zc;repeat(refine s_ ?_;simp)
 rw[show T - p.length=0 by omega]at hI;rw[<-hI];unfold lqB;rfl
def j05(x y:Sy):PC prog 182 [encSy x,encSy y] (λr=>r= .bool (Lq x y)):=by
 refine pcB func182 results182 ntmps182 ?_;simp only[Qe];simp only[encSy,Lq];by_cases h1:x.ty<y.ty
 ·repeat(refine s_ ?_;simp[h1])
 by_cases h2:x.ty=y.ty
 ·repeat(refine s_ ?_;simp[h1,h2])
 have hb:(x.ty==y.ty)=false:=by simpa using h2
 repeat(refine s_ ?_;simp[h1,h2,hb])
end
section
open Go.Maps Go.RowKit
def g1v:Option Int->AV
 |some m=> .tup [.i m,.bool true]
 |none=> .tup [.i 0,.bool false]
def j1q(l:List Iv)(n:Int):PC prog 281 [LIv l,.i n] (λr=>r=g1v (g07 l n)):=by
 refine pcB func281 results281 ntmps281 ?_;simp only[Qe];refine Yb 0 rfl (λhlen=>?_);rw[zY]at hlen;obtain⟨R,hR⟩:∃R,g07 l n=R:=⟨_,rfl⟩
 rw[hR];repeat(refine s_ ?_;simp)
 refine Qs l.length (λj=>g07 (l.drop j) n=R) (λj=>[(1,.i n),(8,LIv l),(9,.i l.length),(10,.i j)]) (λ_=>[]) rfl (by simp) (by simp) (by simp) (by simp) (by simpa using hR) ?_;intro j hj hI ih;repeat(refine s_ ?_;simp)
 refine Qa rfl (λza=>?_) (λzb=>?_)
 ·have z1:j<l.length:=by simpa using za
  have hw:=wz j (by omega);rw[Wx z1,g07]at hI;have z7:(l.map encIv)[j]?=some (encIv l[j]):=by simp[z1]
  have z8:∀hh,(l.map encIv)[j]'hh=encIv l[j]:=λhh=>by simp
  generalize l[j]=x at *;simp only[encIv]at z7 z8
  repeat(refine s_ ?_;simp[z7,z8,z1])
  refine Qa rfl (λh=>?_) (λh=>?_)
  ·rw[if_pos (by simpa using h)]at hI;subst hI;repeat(refine s_ ?_;simp)
   simp only[g1v,c1a]
  rw[if_neg (by simpa using h)]at hI;repeat(refine s_ ?_;simp[hw])
  refine Qp _ (ih z1 hI) rfl (by simp) ?_ (by simp) (by simp);simp
 have z6:j=l.length:=by simp at zb;omega
 subst z6;rw[xH]at hI;subst hI;repeat(refine s_ ?_;simp)
 rfl
def bdL(l:List Iv):Prop:=∀x∈l,-1099511627776<=x.lo/\x.hi<=1099511627776
def u01(l:List Iv)(n:Int)(hb:bdL l):PC prog 282 [LIv l,.i n] (λr=>r= .i (y0g l n)):=by
 refine pcB func282 results282 ntmps282 ?_;simp only[Qe];refine Yb 0 rfl (λhlen=>?_);rw[zY]at hlen;obtain⟨R,hR⟩:∃R,y0g l n=R:=⟨_,rfl⟩
 rw[hR];repeat(refine s_ ?_;simp)
 refine Qj (Qc (sl':=[(1,.i n),(7,LIv l),(8,.i l.length),(9,.i (0:Nat))]) ?_ (by simp));refine Qi (P:=prog) (F:=λ(u:Nat×Int×List AObj)=>⟨[(1,.i u.2.1),(7,LIv l),(8,.i l.length),(9,.i u.1)],u.2.2⟩)
  (λu=>u.1<=l.length/\y0g (l.drop u.1) u.2.1=R) (λu=>l.length - u.1) ?_ (0,n,[]) ⟨yW _,by simpa using hR⟩
 clear hR;rintro⟨j,c,G⟩ ⟨hj,hI⟩ ih;simp only at hj hI ih |-;repeat(refine s_ ?_;simp)
 refine Qa rfl (λzb=>?_) (λzc=>?_)
 ·have z1:j<l.length:=by simpa using zb
  have hw:=wz j (by omega);rw[Wx z1,y0g]at hI;have z6:(l.map encIv)[j]?=some (encIv l[j]):=by simp[z1]
  have z7:∀hh,(l.map encIv)[j]'hh=encIv l[j]:=λhh=>by simp
  have hx:=hb _ (zK z1);generalize l[j]=x at *;simp only[encIv]at z6 z7
  by_cases h1:x.lo<=c
  ·have d1:decide (x.lo<=c)=true:=by simpa using h1
   repeat(refine s_ ?_;simp[z6,z7,z1,d1])
   refine Qa rfl (λh=>?_) (λh=>?_)
   ·have h2:c<=x.hi:=by simpa using h
    rw[if_pos ⟨h1,h2⟩]at hI;have z8:IntKind.i64.wrap (x.hi+1)=x.hi+1:=wrap_i64 _ (by omega) (by omega);repeat(refine s_ ?_;simp[z8,hw])
    refine Qc (sl':=[(1,.i (x.hi+1)),(7,LIv l),(8,.i l.length),(9,.i (j+1:Nat))]) ?_ (by simp);exact ih (j+1,x.hi+1,_) ⟨by simp only;omega,hI⟩ (by simp only;omega)
   have h2:¬c<=x.hi:=by simpa using h
   rw[if_neg (λk=>h2 k.2)]at hI;repeat(refine s_ ?_;simp[hw])
   refine Qc (sl':=[(1,.i c),(7,LIv l),(8,.i l.length),(9,.i (j+1:Nat))]) ?_ (by simp);exact ih (j+1,c,_) ⟨by simp only;omega,hI⟩ (by simp only;omega)
  have d1:decide (x.lo<=c)=false:=by simpa using h1
  rw[if_neg (λk=>h1 k.1)]at hI;repeat(refine s_ ?_;simp[z6,z7,z1,d1])
  refine Qa rfl (λh=>by simp at h) (λh=>?_);repeat(refine s_ ?_;simp[hw])
  refine Qc (sl':=[(1,.i c),(7,LIv l),(8,.i l.length),(9,.i (j+1:Nat))]) ?_ (by simp);exact ih (j+1,c,_) ⟨by simp only;omega,hI⟩ (by simp only;omega)
 have za:j=l.length:=by simp at zc;omega
 subst za;rw[xH]at hI;subst hI;repeat(refine s_ ?_;simp)
 rfl
def u1u:Option Int->AV
 |some m=> .tup [.i m,.bool (decide (m<=1099511627776))]
 |none=> .tup [.i 0,.bool false]
def g2u(O:List (List Iv)):Option Int->Option Int
 |some m=>some (c0a O m)
 |none=>none
def q2j(I O:List (List Iv))(n:Int):d1t I O n=g2u O (d0j I n):=by unfold d1t g2u;cases d0j I n<;>rfl
def v0s{t:Nat}{ps:List Prd}{j:Nat}(h:j<ps.length):D3 t (ps.drop j)=ps[j].getD t []::D3 t (ps.drop (j+1)):=by unfold D3;rw[Wx h];rfl
def u26{T:Nat}{p:Prd}(h:PCk T p){s:List Iv}(hs:s∈p):bdL s:=λx hx=>by obtain⟨i,hi,rfl⟩:=List.getElem_of_mem hx;have:=(h.2 s hs).iv hi;omega
def w1p{p:Prd}{t:Nat}(h:t<p.length):p.getD t []=p[t]:=by simp[yS,h]
def Vw{T:Nat}{p:Prd}(h:PCk T p){t:Nat}(ht:t<T):(p.map encL)[t]?=some (encL (p.getD t []))/\p.getD t []∈p:=by
 have hl:t<p.length:=by rw[h.1];exact ht
 rw[w1p hl];exact⟨by simp[hl],zK hl⟩
attribute [local irreducible] g07 y0g
def g1i(T:Nat)(ins outs:List Prd)(zj:∀p∈ins,PCk T p)(zc:∀p∈outs,PCk T p)(t:Nat)(ht:t<T)(n:Int):PC prog 233 [.i n,.i t,LP ins,LP outs] (λr=>r=u1u (d1t (D3 t ins) (D3 t outs) n)):=by
 refine pcB func233 results233 ntmps233 ?_;simp only[Qe];refine Yb 2 rfl (λhlen=>?_);refine Yb 3 rfl (λz7=>?_);rw[zY]at hlen z7;obtain⟨R,hR⟩:∃R,d1t (D3 t ins) (D3 t outs) n=R:=⟨_,rfl⟩
 rw[hR];rw[q2j]at hR;repeat(refine s_ ?_;simp)
 refine Qj (Qc (sl':=[(0,.i n),(1,.i t),(3,LP outs),(16,LP ins),(17,.i ins.length),(18,.i (0:Nat))]) ?_ (by simp));refine Qi (P:=prog) (F:=λ(u:Nat×Int×List AObj)=>⟨[(0,.i u.2.1),(1,.i t),(3,LP outs),(16,LP ins),(17,.i ins.length),(18,.i u.1)],u.2.2⟩)
  (λu=>u.1<=ins.length/\g2u (D3 t outs) (d0j (D3 t (ins.drop u.1)) u.2.1)=R) (λu=>ins.length - u.1) ?_ (0,n,[]) ⟨yW _,by simpa using hR⟩
 clear hR;rintro⟨j,c,G⟩ ⟨hj,hI⟩ ih;simp only at hj hI ih |-;repeat(refine s_ ?_;simp)
 refine Qa rfl (λzd=>?_) (λze=>?_)
 ·have z1:j<ins.length:=by simpa using zd
  have hw:=wz j (by omega);rw[v0s z1,d0j]at hI;have z8:(ins.map encP)[j]?=some (encP ins[j]):=by simp[z1]
  have za:∀hh,(ins.map encP)[j]'hh=encP ins[j]:=λhh=>by simp
  have hp:=zj _ (zK z1);generalize ins[j]=p at *
  obtain⟨zb,zh⟩:=Vw hp ht;have zf:∀hh,(p.map encL)[t]'hh=encL (p.getD t []):=λhh=>(yH hh).2 zb;have zg:t<p.length:=by rw[hp.1];exact ht
  generalize p.getD t []=s at *;simp only[encP]at z8 za
  repeat(refine s_ ?_;simp[z8,za,z1,zb,zf,zg])
  refine pcL (j1q s c) ?_;simp;cases hf:g07 s c with
  |none=>
   rw[hf]at hI;simp only at hI;subst hI;simp[g1v];repeat(refine s_ ?_;simp)
   refine Qa rfl (λ_=>?_) (λh=>by simp at h);repeat(refine s_ ?_;simp)
   rfl
  |some m=>
   rw[hf]at hI;simp only at hI;simp[g1v];repeat(refine s_ ?_;simp)
   refine Qa rfl (λh=>by simp at h) (λ_=>?_);repeat(refine s_ ?_;simp[hw])
   refine Qc (sl':=[(0,.i m),(1,.i t),(3,LP outs),(16,LP ins),(17,.i ins.length),(18,.i (j+1:Nat))]) ?_ (by simp);exact ih (j+1,m,_) ⟨by simp only;omega,hI⟩ (by simp only;omega)
 have z6:j=ins.length:=by simp at ze;omega
 subst z6;rw[xH]at hI;simp only[D3,wA,d0j]at hI;clear ih;repeat(refine s_ ?_;simp)
 have zi:some (c0a (D3 t outs) c)=R:=hI;refine Qj (Qc (sl':=[(0,.i c),(1,.i t),(36,LP outs),(37,.i outs.length),(38,.i (0:Nat))]) ?_ (by simp));refine Qi (P:=prog) (F:=λ(u:Nat×Int×List AObj)=>⟨[(0,.i u.2.1),(1,.i t),(36,LP outs),(37,.i outs.length),(38,.i u.1)],u.2.2⟩)
  (λu=>u.1<=outs.length/\some (c0a (D3 t (outs.drop u.1)) u.2.1)=R) (λu=>outs.length - u.1) ?_ (0,c,G) ⟨yW _,by simpa using zi⟩
 clear hI zi;clear G c;rintro⟨j,c,G⟩ ⟨hj,hI⟩ ih;simp only at hj hI ih |-;repeat(refine s_ ?_;simp)
 refine Qa rfl (λzd=>?_) (λze=>?_)
 ·have z1:j<outs.length:=by simpa using zd
  have hw:=wz j (by omega);rw[v0s z1,c0a]at hI;have z8:(outs.map encP)[j]?=some (encP outs[j]):=by simp[z1]
  have za:∀hh,(outs.map encP)[j]'hh=encP outs[j]:=λhh=>by simp
  have hp:=zc _ (zK z1);generalize outs[j]=p at *
  obtain⟨zb,zh⟩:=Vw hp ht;have zf:∀hh,(p.map encL)[t]'hh=encL (p.getD t []):=λhh=>(yH hh).2 zb;have zg:t<p.length:=by rw[hp.1];exact ht
  have zk:=u26 hp zh;generalize p.getD t []=s at *;simp only[encP]at z8 za
  repeat(refine s_ ?_;simp[z8,za,z1,zb,zf,zg])
  refine pcL (u01 s c zk) ?_;simp;generalize y0g s c=m at *
  repeat(refine s_ ?_;simp[hw])
  refine Qc (sl':=[(0,.i m),(1,.i t),(36,LP outs),(37,.i outs.length),(38,.i (j+1:Nat))]) ?_ (by simp);exact ih (j+1,m,_) ⟨by simp only;omega,hI⟩ (by simp only;omega)
 have z6:j=outs.length:=by simp at ze;omega
 subst z6;rw[xH]at hI;simp only[D3,wA,c0a]at hI;subst hI;repeat(refine s_ ?_;simp)
 simp[u1u]
def u2v{T:Nat}{ps:List Prd}(h:∀p∈ps,PCk T p){t:Nat}(ht:t<T):∀l∈D3 t ps,Sep l:=λl hl=>by unfold D3 at hl;obtain⟨p,hp,rfl⟩:=zO.1 hl;exact S1 ((h p hp).2 _ (Vw (h p hp) ht).2)
attribute [local irreducible] d1t Kd
def Ng(T:Nat)(hT:T<=1000)(ins outs:List Prd)(zi:∀p∈ins,PCk T p)(ze:∀p∈outs,PCk T p)(P:Prd)(hf:FitP T ins outs P):PC prog 193 [.i T,LP ins,LP outs] (λr=>r=Hw (Bc P)):=by
 refine pcB func193 results193 ntmps193 ?_;simp only[Qe];have hex:=λt n=>hf.mem t n;have za:=λt n h1 h2 h3 h4 h5=>hf.some (t:=t) (n:=n) h1 h2 h3 h4 h5;have zb:=hf.none;have zj:=λt h k=>hf.no (t:=t) h k;generalize Bc P=R at *
 repeat(refine s_ ?_;simp)
 refine Qj (Qc (sl':=[(1,LP ins),(2,LP outs),(6,.vptr 0 0),(12,.i T),(13,.i (0:Nat))]) ?_ (by simp));refine Qi (P:=prog) (F:=λ(t:Nat)=>⟨[(1,LP ins),(2,LP outs),(6,.vptr 0 0),(12,.i T),(13,.i t)],[.vars [.i 0,.i 0]]⟩)
  (λt=>t<=T/\∀t',t'<t->∀k,¬PM P t' k) (λt=>T - t) ?_ 0 ⟨yW _,λt' h=>absurd h (t_ _)⟩
 rintro t ⟨zn,hb⟩ ih;repeat(refine s_ ?_;simp)
 refine Qa rfl (λzk=>?_) (λzl=>?_)
 ·have z6:t<T:=by simpa using zk
  have hw:=wz t (by omega);have zc:=λn=>g1i T ins outs zi ze t z6 n;have zm:=λn=>k1p (D3 t ins) (D3 t outs) n (u2v zi z6);have z7:=λn=>za t n z6 hb;have zf:=zj t;generalize D3 t ins=I at *;generalize D3 t outs=O at *
  repeat(refine s_ ?_;simp)
  refine Qj (Qc (sl':=[(1,LP ins),(2,LP outs),(6,.vptr 0 0),(8,.i t),(9,.i (-1099511627776)),(12,.i T),(13,.i t)]) ?_ (by simp));refine Qi (P:=prog) (F:=λ(n:Int)=>⟨[(1,LP ins),(2,LP outs),(6,.vptr 0 0),(8,.i t),(9,.i n),(12,.i T),(13,.i t)],[.vars [.i 0,.i 0]]⟩)
   (λn=>inR n/\∀k,inR k->Kd I O k->n<=k) (λn=>(1099511627777 - n).toNat) ?_ (-1099511627776) ⟨by unfold inR;omega,λk hk _=>hk.1⟩
  rintro n ⟨hn,z1⟩ ih2;repeat(refine s_ ?_;simp)
  refine pcL (zc n) ?_;simp;have z8:=zm n;have zd:(∀k,inR k->¬Kd I O k)->∀t',t'<t+1->∀k,¬PM P t' k:=λh t' zo k=>by
   by_cases e:t'=t
   ·subst e;exact zf h k
   exact hb t' (by omega) k
  cases hx:d1t I O n with
  |none=>
   rw[hx]at z8;simp only at z8;simp[u1u];repeat(refine s_ ?_;simp)
   refine Qa rfl (λ_=>?_) (λh=>by simp at h);repeat(refine s_ ?_;simp[hw])
   refine Qc (sl':=[(1,LP ins),(2,LP outs),(6,.vptr 0 0),(12,.i T),(13,.i (t+1:Nat))]) ?_ (by simp);exact ih (t+1) ⟨by omega,zd λk hk hg=>z8 k (z1 k hk hg) hg⟩ (by omega)
  |some m=>
   rw[hx]at z8;simp only at z8;obtain⟨s1,s2,s3⟩:=z8;simp[u1u];by_cases hm:m<=1099511627776
   ·repeat(refine s_ ?_;simp[hm])
    refine Qa rfl (λh=>by simp[hm]at h) (λ_=>?_);repeat(refine s_ ?_;simp)
    refine Qa rfl (λh=>?_) (λh=>?_)
    ·have e:m=n:=by simpa using h
     have zg:=z7 n hn (s3 e) z1;subst zg;repeat(refine s_ ?_;simp)
     simp[Hw,encSy]
    have e:m≠n:=by simpa using h
    repeat(refine s_ ?_;simp)
    refine Qc (sl':=[(1,LP ins),(2,LP outs),(6,.vptr 0 0),(8,.i t),(9,.i m),(12,.i T),(13,.i t)]) ?_ (by simp);exact ih2 m ⟨⟨by have:=hn.1;omega,hm⟩,λk hk hg=>s2 k (z1 k hk hg) hg⟩ (by have:=hn.1;omega)
   repeat(refine s_ ?_;simp[hm])
   refine Qa rfl (λ_=>?_) (λh=>by simp[hm]at h);repeat(refine s_ ?_;simp[hw])
   refine Qc (sl':=[(1,LP ins),(2,LP outs),(6,.vptr 0 0),(12,.i T),(13,.i (t+1:Nat))]) ?_ (by simp);exact ih (t+1) ⟨by omega,zd λk hk hg=>hm (Int.le_trans (s2 k (z1 k hk hg) hg) hk.2)⟩ (by omega)
 have zh:t=T:=by simp at zl;omega
 subst zh;have zg:=zb hb;subst zg;repeat(refine s_ ?_;simp)
 simp[Hw,encSy]
end
section
open Go.Maps Go.RowKit
section
variable {P:Program} [Env P] {nt k:Nat} {ops:Array Oper} {o:Oper} {R:AS->Prop}
def Mk{wr:Bool}{sl:List (Nat×AV)}{H:List AObj}(i:Nat){e c:Nat}{xs:List AV}(hi:H[i]?=some (.arr e c xs))(h:Wb P nt k wr ops o ⟨sl,H.set i (.arr e c (xs.map AV.nrm))⟩ R):Wb P nt k wr ops o ⟨sl,H⟩ R:=
 λC a w K Q hs=>h C a w K Q (hs.swap hi rfl (λ_ _=>U4.nrmArr))
end
def W5(s:Int):Option Mv->AV
 |some m=>encMv m
 |none=> .agg [.i s,.i (-1),.list []]
def y06{a:Aut}{s:Int}{j:Nat}(h:j<a.mv.length):(a.mv.take (j+1)).filter (λm=>decide (m.src=s))=(a.mv.take j).filter (λm=>decide (m.src=s))++(if a.mv[j].src=s then [a.mv[j]]else []):=by
 rw[zR h,vV]
 congr 1
 by_cases e:a.mv[j].src=s<;>simp[e]
def d2h(a:Aut)(s:Int)(j:Nat):((a.mv.take j).filter λm=>decide (m.src=s)).length<=a.mv.length:=yL (xG _ _) (by rw[xY];omega)
def Kq(a:Aut)(s:Int)(zm:a.mv.length<=1000000):PC prog 191 [encA a,.i s] (λr=>r= .list ((Wo a s).map (W5 s))):=by
 refine pcB func191 results191 ntmps191 ?_;simp only[Qe];simp only[encA];refine Wd 0 2 rfl rfl (λhlen=>?_);rw[zY]at hlen;repeat(refine s_ ?_;simp)
 have zc:=λj (h:j<a.mv.length)=>y06 (a:=a) (s:=s) h;have zd:=λj=>d2h a s j;refine Qz 5 73 3 rfl ?_;simp;obtain⟨K,hK⟩:∃K,K=[AObj.vars (Qk a)]:=⟨_,rfl⟩
 have hst:=SL.start K 73 3;refine Qj (Qc (sl':=[(1,.i s),(5,.sl 1 3 0 ((a.mv.take 0).filter λm=>decide (m.src=s)).length),(9,.list (a.mv.map encMv)),(10,.i a.mv.length),(11,.i (0:Nat))]) ?_ (by simp));refine Qi (P:=prog) (F:=λ(u:Nat×Nat×List AObj)=>⟨[(1,.i s),(5,.sl u.2.1 3 0 ((a.mv.take u.1).filter λm=>decide (m.src=s)).length),(9,.list (a.mv.map encMv)),(10,.i a.mv.length),(11,.i u.1)],u.2.2⟩)
  (λu=>u.1<=a.mv.length/\SL K u.2.2 u.2.1 73 3 (((a.mv.take u.1).filter λm=>decide (m.src=s)).map encMv)) (λu=>a.mv.length - u.1) ?_ (0,1,_) ⟨yW _,by rw[hK]at hst |-;simpa using hst⟩
 rintro⟨j,q,G⟩ ⟨hj,g⟩ ih;simp only at hj g ih |-;have z8:=zd j;repeat(refine s_ ?_;simp)
 refine Qa rfl (λze=>?_) (λzf=>?_)
 ·have z1:j<a.mv.length:=by simpa using ze
  have hw:=wz j (by omega);have zg:=zc j z1;have z6:=λq' G'=>ih (j+1,q',G');simp only[zg]at z6;have za:(a.mv.map encMv)[j]?=some (encMv a.mv[j]):=by simp[z1]
  have zb:∀hh,(a.mv.map encMv)[j]'hh=encMv a.mv[j]:=λhh=>by simp
  generalize a.mv[j]=m at *;generalize (a.mv.take j).filter (λm=>decide (m.src=s))=P at *
  have z7:(P.map encMv).length=P.length:=by simp
  simp only[encMv]at za zb;repeat(refine s_ ?_;simp[za,zb,z1])
  refine Qa rfl (λh=>?_) (λh=>?_)
  ·have e:m.src=s:=by simpa using h
   rw[if_pos e]at z6;repeat(refine s_ ?_;simp)
   refine apS T23 T73 ?_;simp[Qb g.arr,Qg g.arr,z7];refine⟨by simp[Wf,Qb g.arr,Qg g.arr,z7]<;>omega,?_⟩;repeat(refine s_ ?_;simp[hw])
   refine Qc (sl':=[(1,.i s),(5,.sl (G.length+2) 3 0 (P++[m]).length),(9,.list (a.mv.map encMv)),(10,.i a.mv.length),(11,.i (j+1:Nat))]) ?_ (by simp);have:=z6 (G.length+2) _ ⟨by omega,g.put [AObj.vars [.i m.src,.i m.dst,.list (m.on.map encL)],AObj.arr 73 3 [encMv m]] ((P++[m]).map encMv) rfl⟩ (by omega);simpa[encMv]using this
  have e:m.src≠s:=by simpa using h
  rw[if_neg e,xB]at z6;repeat(refine s_ ?_;simp[hw])
  refine Qc (sl':=[(1,.i s),(5,.sl q 3 0 P.length),(9,.list (a.mv.map encMv)),(10,.i a.mv.length),(11,.i (j+1:Nat))]) ?_ (by simp);exact z6 q _ ⟨by omega,g.add _⟩ (by omega)
 have zh:j=a.mv.length:=by simp at zf;omega
 subst zh;have zi:a.mv.take a.mv.length=a.mv:=yB;rw[zi]at g z8 |-;have zj:a.mv.filter (λm=>decide (m.src=s))=mvS a s:=rfl;have zk:(Wo a s).map (W5 s)=(mvS a s).map encMv++[.agg [.i s,.i (-1),.list []]]:=by unfold Wo;simp[W5]
 rw[zk];rw[zj]at g z8 |-;generalize mvS a s=P at *
 have z7:(P.map encMv).length=P.length:=by simp
 repeat(refine s_ ?_;simp)
 refine Mk G.length (e:=73) (c:=3) (xs:=[.agg [.i s,.i (-1),.nils]]) (by simp) ?_;have zl:∀u z:AObj,(G++[u]).set G.length z=G++[z]:=λu z=>by rw[List.set_append_right _ _ (by simp)];simp
 simp[zl];refine apS T23 T73 ?_;simp[Qb g.arr,Qg g.arr,z7];refine⟨by simp[Wf,Qb g.arr,Qg g.arr,z7]<;>omega,?_⟩;repeat(refine s_ ?_;simp)
 rw[zT (by simp)]
def q0c(a:Aut)(s:Int)(i:Nat)(o:Option Mv)(h:(Wo a s)[i]?=some o)(hl:a.mv.length<=1000000):PC prog 192 [.list ((Wo a s).map (W5 s)),.i i] (λr=>r= .tup [LP (Xj o),LP (Sz a s o)]):=by
 refine pcB func192 results192 ntmps192 ?_;simp only[Qe];have zr:(mvS a s).length<=a.mv.length:=xG _ _;have zh:(Wo a s).length=(mvS a s).length+1:=by unfold Wo;simp
 have zi:i<(Wo a s).length:=(zB.1 h).1;have zj:IntKind.i64.wrap ((mvS a s).length:Int)=(mvS a s).length:=wrap_i64 _ (by omega) (by omega);repeat(refine s_ ?_;simp[zh,zj])
 refine Qa rfl (λzk=>?_) (λzl=>?_)
 ·have z7:i<(mvS a s).length:=by simpa using zk
  obtain⟨m,rfl,z6⟩:∃m,o=some m/\((Wo a s).map (W5 s))[i]?=some (encMv m):=by unfold Wo at h |-;rw[zF (by simpa using z7)]at h;rw[zU,zF (by simpa using z7),h];rw[zU]at h;obtain⟨m,_,rfl⟩:=zS.1 h;exact⟨m,rfl,rfl⟩
  have z8:∀hh,((Wo a s).map (W5 s))[i]'hh=encMv m:=λhh=>(yH hh).2 z6;generalize Wo a s=L at *;simp only[encMv]at z6 z8
  repeat(refine s_ ?_;simp[z6,z8,zi])
  exact⟨rfl,rfl⟩
 have zm:i=(mvS a s).length:=by simp at zl;omega
 subst zm;obtain rfl:o=none:=by unfold Wo at h;rw[zH (by simp)]at h;simpa using h.symm
 have zn:((Wo a s).map (W5 s)).take (mvS a s).length=(mvS a s).map encMv:=by unfold Wo;rw[yU,List.take_append_of_le_length (by simp),zT (by simp)];simp[W5]
 have hle:(mvS a s).length<=(Wo a s).length:=by omega
 repeat(refine s_ ?_;simp[hle])
 rw[if_pos (λo ho=>by cases o<;>rfl)];simp;rw[zn];have za:min (mvS a s).length (Wo a s).length=(mvS a s).length:=by omega
 rw[za];have zb:Sz a s none=(mvS a s).map (·.on):=rfl;rw[zb];generalize mvS a s=P at *;refine Qz 5 70 1 rfl ?_
 simp;repeat(refine s_ ?_;simp)
 refine Qj (Qc (sl':=[(4,.nils),(5,.sl 0 1 0 (0:Nat)),(21,.list (P.map encMv)),(22,.i P.length),(23,.i (0:Nat))]) ?_ (by simp));refine Qi (P:=prog) (F:=λ(u:Nat×Nat×List AObj)=>⟨[(4,.nils),(5,.sl u.2.1 1 0 u.1),(21,.list (P.map encMv)),(22,.i P.length),(23,.i u.1)],u.2.2⟩)
  (λu=>u.1<=P.length/\u.2.2[u.2.1]?=some (.arr 70 1 ((P.take u.1).map λm=>encP m.on))) (λu=>P.length - u.1) ?_ (0,0,_) ⟨yW _,by simp⟩
 rintro⟨j,q,G⟩ ⟨hj,gq⟩ ih;simp only at hj gq ih |-;repeat(refine s_ ?_;simp)
 refine Qa rfl (λzc=>?_) (λzd=>?_)
 ·have z1:j<P.length:=by simpa using zc
  have zo:=wz j (by omega);have ze:(P.take (j+1)).map (λm=>encP m.on)=(P.take j).map (λm=>encP m.on)++[encP P[j].on]:=by rw[zR z1,yU];rfl
  have zf:=λq' G'=>ih (j+1,q',G');simp only[ze]at zf;have z6:(P.map encMv)[j]?=some (encMv P[j]):=by simp[z1]
  have z8:∀hh,(P.map encMv)[j]'hh=encMv P[j]:=λhh=>by simp
  have zg:((P.take j).map λm=>encP m.on).length=j:=by simp;omega
  clear ze;generalize (P.take j).map (λm=>encP m.on)=acc at *
  generalize P[j]=m at *;simp only[encMv]at z6 z8
  repeat(refine s_ ?_;simp[z6,z8,z1])
  refine apS T87 T70 ?_;simp[Qb gq,Qg gq,zg];refine⟨by simp[Wf,Qb gq,Qg gq,zg]<;>omega,?_⟩;repeat(refine s_ ?_;simp[zo])
  refine Qc (sl':=[(4,.nils),(5,.sl (G.length+2) 1 0 (j+1)),(21,.list (P.map encMv)),(22,.i P.length),(23,.i (j+1:Nat))]) ?_ (by simp);refine zf (G.length+2) _ ⟨by omega,?_⟩ (by omega);rw[zH (by simp)];simp[encP]
 have zp:j=P.length:=by simp at zd;omega
 subst zp;rw[yB]at gq;have zq:P.map (λm=>encP m.on)=(P.map (·.on)).map encP:=by rw[vX];rfl
 rw[zq]at gq;repeat(refine s_ ?_;simp[gq])
 refine⟨rfl,?_⟩;rw[zT (by simp)]
end
section
open Go.Maps Go.RowKit
attribute [simp] T25 T35
def y0o(a b:Aut):PC prog 126 [encA a,encA b] (λr=>r= .i (E6 a b)):=by
 refine pcB func126 results126 ntmps126 ?_;simp only[Qe];have cA:=Yw a;have cB:=Yw b;simp only[encA]at cA cB |-;obtain⟨R,hR⟩:∃R,E6 a b=R:=⟨_,rfl⟩
 rw[hR];unfold E6 at hR;have w1:IntKind.i64.wrap 1=1:=by decide
 have w2:IntKind.i64.wrap 2=2:=by decide
 repeat(refine s_ ?_;simp)
 refine Qs 2 (λj=>j=0\/Wl a=0/\(j=1\/Wl b=0)) (λj=>[(2,.vptr 0 0),(3,.vptr 1 0),(10,.sl 2 3 0 2),(11,.i (2:Nat)),(12,.i j)]) (λ_=>[.vars (Qk a),.vars (Qk b),.arr 25 3 [.agg (Qk a),.agg (Qk b)]]) rfl (by simp) (by simp) (by simp) (by simp) (.inl rfl) ?_;intro j hj hI ih;repeat(refine s_ ?_;simp)
 refine Qa rfl (λz8=>?_) (λza=>?_)
 ·have z1:j<2:=by simp at z8;omega
  obtain rfl|rfl:j=0\/j=1:=by omega
  ·repeat(refine s_ ?_;simp)
   refine pcL (cA) ?_;simp;repeat(refine s_ ?_;simp)
   refine Qa rfl (λh=>?_) (λh=>?_)
   ·rw[if_pos (by simpa using h)]at hR;subst hR;repeat(refine s_ ?_;simp)
   repeat(refine s_ ?_;simp[w1])
   refine Qp _ (ih z1 (.inr ⟨by simpa using h,.inl rfl⟩)) rfl (by simp) ?_ (by simp) (by simp);simp
  have h0:Wl a=0:=by rcases hI with h|h;exact absurd h (by decide);exact h.1
  rw[if_neg (by simpa using h0)]at hR;repeat(refine s_ ?_;simp)
  refine pcL (cB) ?_;simp;repeat(refine s_ ?_;simp)
  refine Qa rfl (λh=>?_) (λh=>?_)
  ·rw[if_pos (by simpa using h)]at hR;subst hR;repeat(refine s_ ?_;simp)
  repeat(refine s_ ?_;simp[w2])
  refine Qp _ (ih z1 (.inr ⟨h0,.inr (by simpa using h)⟩)) rfl (by simp) ?_ (by simp) (by simp);simp
 have z6:j=2:=by simp at za;omega
 subst z6;have z7:Wl a=0/\Wl b=0:=by
  rcases hI with h|⟨h1,h2⟩
  ·exact absurd h (by decide)
  exact⟨h1,h2.elim (λh=>absurd h (by decide)) id⟩
 rw[if_neg (by simpa using z7.1),if_neg (by simpa using z7.2)]at hR;repeat(refine s_ ?_;simp)
 refine Qa rfl (λh=>?_) (λh=>?_)
 ·rw[if_pos (by simpa using h)]at hR;subst hR;repeat(refine s_ ?_;simp)
 rw[if_neg (by simpa using h)]at hR;subst hR;repeat(refine s_ ?_;simp)
def x0f{n j:Nat}(h:j<=n){p:Int->Bool}(hp:∀i:Nat,i<j->p i=true)(hn:j=n\/p j=false):(Ee n).all p=decide (j=n):=by
 rw[Bool.eq_iff_iff,zW,decide_eq_true_eq];constructor
 ·intro k;rcases hn with e|e
  ·exact e
  by_cases e2:j=n
  ·exact e2
  have:=k j (Wy.2 ⟨by omega,by omega⟩);rw[e]at this;cases this
 intro e z hz;obtain⟨h0,h1⟩:=Wy.1 hz;obtain⟨i,rfl⟩:=Int.eq_ofNat_of_zero_le h0;exact hp i (by omega)
def onF(a:Aut)(s:Int)(j:Nat):List Prd:=((a.mv.take j).filter λm=>decide (m.src=s)).map (·.on)
def u1b(a:Aut)(s:Int):onF a s 0=[]:=by simp[onF]
def k1d(a:Aut)(s:Int){j:Nat}(h:j<a.mv.length):onF a s (j+1)=onF a s j++(if a.mv[j].src=s then [a.mv[j].on]else []):=by
 unfold onF;rw[y06 h,yU]
 congr 1
 split<;>rfl
def w2f(a:Aut)(s:Int):onF a s a.mv.length=Sz a s none:=by unfold onF;rw[yB];rfl
def x2b(a:Aut)(s:Int)(j:Nat):(onF a s j).length<=a.mv.length:=by unfold onF;rw[zY];exact d2h a s j
def c11(y:Option Sy):Hw y= .tup [.agg [.i (y.getD ⟨0,0⟩).ty,.i (y.getD ⟨0,0⟩).num],.bool y.isSome]:=by cases y<;>rfl
attribute [local irreducible] c1v Bc q0r onF
def x0o(a:Aut)(ha:OkA a):PC prog 134 [encA a] (λr=>r= .bool (Li a)):=by
 refine pcB func134 results134 ntmps134 ?_;simp only[Qe];have zi:=ha.fin;have zj:=ha.mvs;have hd:c1v a=(Ns a,0):=by unfold c1v;rw[if_pos ((Y4 a).2 ha)]
 have cD:=k2s a;rw[hd]at cD;simp only[encA]at cD |-;have hL:=λk:Int=>Ng a.types.toNat (by have:=ha.types;omega) [] (Sz a k none) (λp h=>by cases h) (λp hp=>by
  obtain⟨m,hm,rfl⟩:=zO.1 hp;exact(ha.mv m (Rz.1 hm).1).on) (q0r a k none) (q00 ha (Od.2 (.inl rfl)))
 have zk:((a.types.toNat:Nat):Int)=a.types:=by have:=ha.types;omega
 simp only[zk,c11]at hL;have zl:∀k,B5 a k=(Bc (q0r a k none)).isSome:=λ_=>rfl;have z8:=w2f a;have zm:Li a=(Ns a && (Ee a.fin.length).all λs=> !B5 a s):=rfl;rw[zm];have zn:=λk j (h:j<a.mv.length)=>k1d a k h;have zo:=λk j=>x2b a k j;have hz:=u1b a;repeat(refine s_ ?_;simp)
 refine pcL (cD) ?_;simp;repeat(refine s_ ?_;simp)
 cases hsg:Ns a with
 |false=>
  repeat(refine s_ ?_;simp)
  refine Qa rfl (λ_=>?_) (λh=>by simp at h);repeat ((refine s_ ?_;simp))
 |true=>
  repeat(refine s_ ?_;simp)
  refine Qa rfl (λh=>by simp at h) (λ_=>?_);repeat(refine s_ ?_;simp)
  refine Qj (Qc (sl':=[(1,.vptr 0 0),(24,.i a.fin.length),(25,.i (0:Nat))]) ?_ (by simp));refine Qi (P:=prog) (F:=λ(u:Nat×List AObj)=>⟨[(1,.vptr 0 0),(24,.i a.fin.length),(25,.i u.1)],u.2⟩)
   (λu=>u.1<=a.fin.length/\(∀i:Nat,i<u.1->(!B5 a i)=true)/\u.2[0]?=some (.vars (Qk a))) (λu=>a.fin.length - u.1) ?_ (0,_) ⟨yW _,λi h=>absurd h (t_ _),rfl⟩
  rintro⟨k,G⟩ ⟨hk,hI,g0⟩ ih;simp only at hk hI g0 ih |-;repeat(refine s_ ?_;simp)
  refine Qa rfl (λzp=>?_) (λzq=>?_)
  ·have zr:k<a.fin.length:=by simpa using zp
   have hw:=wz k (by omega);have zt:=zn k;have zu:=zo k;have zv:=hL k;repeat(refine s_ ?_;simp[g0])
   refine Qz 6 70 1 rfl ?_;simp;have hst:=SL.start G 70 1;refine Qj (Qc (sl':=[(1,.vptr 0 0),(5,.i k),(6,.sl G.length 1 0 (onF a k 0).length),(24,.i a.fin.length),(25,.i k),(29,.list (a.mv.map encMv)),(30,.i a.mv.length),(31,.i (0:Nat))]) ?_ (by simp[hz]));refine Qi (P:=prog) (F:=λ(u:Nat×Nat×List AObj)=>⟨[(1,.vptr 0 0),(5,.i k),(6,.sl u.2.1 1 0 (onF a k u.1).length),(24,.i a.fin.length),(25,.i k),(29,.list (a.mv.map encMv)),(30,.i a.mv.length),(31,.i u.1)],u.2.2⟩)
    (λu=>u.1<=a.mv.length/\SL G u.2.2 u.2.1 70 1 ((onF a k u.1).map encP)) (λu=>a.mv.length - u.1) ?_ (0,G.length,_) ⟨yW _,by rw[hz];simpa using hst⟩
   rintro⟨j,q,E⟩ ⟨hj,g⟩ ih2;simp only at hj g ih2 |-;have zw:=zu j;repeat(refine s_ ?_;simp)
   refine Qa rfl (λza=>?_) (λzb=>?_)
   ·have z1:j<a.mv.length:=by simpa using za
    have ze:=wz j (by omega);have zx:=zt j z1;have z6:=λq' G'=>ih2 (j+1,q',G');simp only[zx]at z6;have zf:(a.mv.map encMv)[j]?=some (encMv a.mv[j]):=by simp[z1]
    have zg:∀hh,(a.mv.map encMv)[j]'hh=encMv a.mv[j]:=λhh=>by simp
    generalize a.mv[j]=m at *;generalize onF a k j=P at *
    have z7:(P.map encP).length=P.length:=by simp
    simp only[encMv]at zf zg;repeat(refine s_ ?_;simp[zf,zg,z1])
    refine Qa rfl (λh=>?_) (λh=>?_)
    ·have e:m.src=k:=by simpa using h
     rw[if_pos e]at z6;repeat(refine s_ ?_;simp)
     refine apS T87 T70 ?_;simp[Qb g.arr,Qg g.arr,z7];refine⟨by simp[Wf,Qb g.arr,Qg g.arr,z7]<;>omega,?_⟩;repeat(refine s_ ?_;simp[ze])
     refine Qc (sl':=[(1,.vptr 0 0),(5,.i k),(6,.sl (E.length+2) 1 0 (P++[m.on]).length),(24,.i a.fin.length),(25,.i k),(29,.list (a.mv.map encMv)),(30,.i a.mv.length),(31,.i (j+1:Nat))]) ?_ (by simp);have:=z6 (E.length+2) _ ⟨by omega,g.put [AObj.vars [.i m.src,.i m.dst,.list (m.on.map encL)],AObj.arr 70 1 [encP m.on]] ((P++[m.on]).map encP) rfl⟩ (by omega);simpa[encP]using this
    have e:m.src≠k:=by simpa using h
    rw[if_neg e,xB]at z6;repeat(refine s_ ?_;simp[ze])
    refine Qc (sl':=[(1,.vptr 0 0),(5,.i k),(6,.sl q 1 0 P.length),(24,.i a.fin.length),(25,.i k),(29,.list (a.mv.map encMv)),(30,.i a.mv.length),(31,.i (j+1:Nat))]) ?_ (by simp);exact z6 q _ ⟨by omega,g.add _⟩ (by omega)
   have zy:j=a.mv.length:=by simp at zb;omega
   subst zy;rw[z8]at g zw |-;have e0:=g.kp g0;have z7:((Sz a k none).map encP).length=(Sz a k none).length:=by simp
   have zc:((Sz a k none).map encP).take (Sz a k none).length=(Sz a k none).map encP:=zT (by simp);have zh:=zl k;generalize Bc (q0r a k none)=Y at *;generalize Sz a k none=P at *
   repeat(refine s_ ?_;simp[e0])
   refine Oz rfl rfl (by first|(simp[g.arr,zc,z7];done)|(simp[g.arr,zc,z7];rfl)) (zv) rfl ?_;rintro _ rfl;refine⟨by first|simp|rfl|trivial,?_⟩;simp[g.arr,zc,z7];cases Y with
   |some y=>
    have hf:(Ee a.fin.length).all (λs=> !B5 a s)=false:=by rw[x0f (j:=k) (by omega) hI (.inr (by rw[zh];rfl))];simp;omega
    rw[hf];repeat(refine s_ ?_;simp)
    refine Qa rfl (λ_=>?_) (λh=>by simp at h);repeat ((refine s_ ?_;simp))
   |none=>
    repeat(refine s_ ?_;simp)
    refine Qa rfl (λh=>by simp at h) (λ_=>?_);repeat(refine s_ ?_;simp[hw])
    refine Qc (sl':=[(1,.vptr 0 0),(24,.i a.fin.length),(25,.i (k+1:Nat))]) ?_ (by simp);refine ih (k+1,_) ⟨by omega,λi hi=>?_,Qb e0 _⟩ (by omega);by_cases e:i=k
    ·subst e;rw[zh];rfl
    exact hI i (by omega)
  have zd:k=a.fin.length:=by simp at zq;omega
  subst zd;have hf:(Ee a.fin.length).all (λs=> !B5 a s)=true:=by rw[x0f (zQ _) hI (.inl rfl)];simp
  rw[hf];repeat(refine s_ ?_;simp)
attribute [local irreducible] E6 Li
def L9(a b:Aut):PC prog 69 [encA a,encA b] (λr=>r= .i (Tm a b)):=by
 refine pcB func69 results69 ntmps69 ?_;simp only[Qe];obtain⟨R,hR⟩:∃R,Tm a b=R:=⟨_,rfl⟩
 rw[hR];rw[j07]at hR;have cB:=y0o a b;have z6:E6 a b=0->OkA a/\OkA b:=λh=>⟨(Uo.1 h).1,(Uo.1 h).2.1⟩
 simp only[encA]at cB |-;repeat(refine s_ ?_;simp)
 refine pcL (cB) ?_;simp;repeat(refine s_ ?_;simp)
 refine Qa rfl (λh=>?_) (λh=>?_)
 ·repeat(refine s_ ?_;simp)
  have h':E6 a b≠0:=by simpa using h
  rw[if_pos h']at hR;exact hR
 have h':¬E6 a b≠0:=by simpa using h
 rw[if_neg h']at hR;obtain⟨ha,hb⟩:=z6 (by simpa using h);have cF:=x0o a ha;have cG:=x0o b hb;simp only[encA]at cF cG;repeat(refine s_ ?_;simp)
 refine pcL (cF) ?_;simp;cases z1:Li a with
 |true=>
  repeat(refine s_ ?_;simp)
  refine pcL (cG) ?_;simp;cases hfb:Li b with
  |true=>
   repeat(refine s_ ?_;simp)
   refine Qa rfl (λh=>by simp at h) (λ_=>?_);repeat(refine s_ ?_;simp)
   rw[<-hR,z1,hfb];rfl
  |false=>
   repeat(refine s_ ?_;simp)
   refine Qa rfl (λ_=>?_) (λh=>by simp at h);repeat(refine s_ ?_;simp)
   rw[<-hR,z1,hfb];rfl
 |false=>
  repeat(refine s_ ?_;simp)
  refine Qx rfl rfl ?_;simp;repeat(refine s_ ?_;simp)
  refine Qa rfl (λ_=>?_) (λh=>by simp at h);repeat(refine s_ ?_;simp)
  rw[<-hR,if_pos (.inl z1)]
def q0b(a:Aut)(s:Int)(hs:inD a s):PC prog 127 [encA a,.i s] (λr=>r= .bool (z05 a s)):=by
 refine pcB func127 results127 ntmps127 ?_;simp only[Qe];simp only[encA];unfold z05;by_cases h1:s= -1
 ·subst h1;repeat(refine s_ ?_;simp)
 have hr:inS a s:=hs.resolve_left h1;obtain⟨k,rfl⟩:∃k:Nat,s=k:=⟨s.toNat,(An hr).2.symm⟩
 have hk:k<a.fin.length:=by have:=hr.2;omega
 have z1:((k:Int)== -1)=false:=by simp
 have z6:a.fin.getD k false=a.fin[k]:=by simp[yS,hk]
 repeat(refine s_ ?_;simp[z1,hk])
end
section
def k1y(H:List AObj)(n:Nat)(h0:0<n)(hn:n<=100000):FC prog 234 [.nils,.i n] H
  (λr H'=>r= .sl H.length 1 0 0/\H'=H++[.arr 70 1 []]):=by
 have z6:¬((n:Int)<0):=by omega
 have hw:IntKind.i64.wrap (n:Int)=n:=wrap_i64 _ (by omega) (by omega);refine fcB func234 results234 ntmps234 ?_;simp only[Qe];repeat(refine s_ ?_;simp)
 refine Qa rfl (λh=>?_) (λh=>?_)
 ·simp[z6]at h
 have z1:IntKind.i64.wrap 0=0:=by decide
 repeat(refine s_ ?_;simp[hw])
 refine Pu tOk rfl rfl T87 rfl rfl rfl ?_;simp[hw,z1];repeat(refine s_ ?_;simp[hw,z1])
 refine Qa rfl (λh2=>?_) (λh2=>?_)
 ·repeat(refine s_ ?_;simp[hw,z1])
  refine Pu tOk rfl rfl T87 rfl rfl rfl ?_;simp[hw,z1];refine A9 tOk rfl rfl T87 rfl T3 rfl T70 rfl (by decide) rfl (n:=n) rfl h0 (by simp;omega) (by omega) (.agg [.nils]) rfl rfl ?_;simp;refine f08 H.length 0 (z2e H _ []) ?_;simp;repeat(refine s_ ?_;simp)
 simp at h2;omega
def q1r(H:List AObj):FC prog 234 [.nils,.i 0] H (λr H'=>r= .nils/\H'=H):=by
 refine fcB func234 results234 ntmps234 ?_;simp only[Qe];have z1:IntKind.i64.wrap 0=0:=by decide
 repeat(refine s_ ?_;simp)
 refine Qq rfl ?_;simp;repeat(refine s_ ?_;simp[z1])
 refine Pu tOk rfl rfl T87 rfl rfl rfl ?_;simp[z1];repeat(refine s_ ?_;simp[z1])
 refine Qq rfl ?_;simp;repeat(refine s_ ?_;simp[z1])
def Ov(ls:List (List Prd)):List Prd:=ls.flatten
def Kb(ls:List (List Prd))(j:Nat)(h:j<ls.length):Ov (ls.take (j+1))=Ov (ls.take j)++ls[j]:=by unfold Ov;rw[zR h,tr];simp only[List.flatten_cons,List.flatten_nil,xB]
def w0z(ls:List (List Prd))(j:Nat):(Ov (ls.take j)).length<=(Ov ls).length:=by
 conv=>rhs;rw[<-List.take_append_drop j ls,Ov,tr,z_]
 rw[Ov];omega
def X4(ls:List (List Prd)):Ov (ls.take ls.length)=Ov ls:=by rw[yB]
def Sm:Ov []=[]:=rfl
attribute [local irreducible] Ov
def Xm(ls:List (List Prd))(hl:ls.length<=1000)(ht:(Ov ls).length<=100000):PC prog 194 [.list (ls.map LP)] (λr=>r=LP (Ov ls)):=by
 refine pcB func194 results194 ntmps194 ?_;simp only[Qe];repeat(refine s_ ?_;simp)
 refine Qs ls.length (λ_=>True) (λj=>[(0,.list (ls.map LP)),(3,.i (Ov (ls.take j)).length),(9,.list (ls.map LP)),(10,.i ls.length),(11,.i j)]) (λ_=>[]) rfl (by simp) (by simp[Sm]) (by simp) (by simp) trivial ?_;intro j hj hI ih;repeat(refine s_ ?_;simp)
 refine Qa rfl (λz8=>?_) (λza=>?_)
 ·have z1:j<ls.length:=by simpa using z8
  have hw:=wz j (by omega);have zc:=w0z ls (j+1);have ih:=ih z1 trivial;have z7:(Ov (ls.take (j+1))).length=(Ov (ls.take j)).length+ls[j].length:=by rw[Kb ls j z1,z_]
  generalize (Ov (ls.take (j+1))).length=m at *;generalize (Ov (ls.take j)).length=k at *
  have zd:IntKind.i64.wrap ((k:Int)+ls[j].length)=m:=by rw[wrap_i64 _ (by omega) (by omega)];omega
  repeat(refine s_ ?_;simp[z1,zd])
  refine Qa rfl (λh2=>?_) (λh2=>?_)
  ·simp at h2;omega
  repeat(refine s_ ?_;simp[hw,zd])
  refine Qp _ ih rfl (by simp) ?_ (by simp) (by simp);simp
 have z6:j=ls.length:=by simp at za;omega
 subst z6;clear ih;obtain⟨n,hn⟩:∃n,(Ov ls).length=n:=⟨_,rfl⟩
 rw[X4,hn];rcases Nat.eq_zero_or_pos n with h0|h0
 ·subst h0;repeat(refine s_ ?_;simp)
  refine Q3 rfl rfl (q1r []) rfl ?_;rintro r H' ⟨rfl,rfl⟩;simp;repeat(refine s_ ?_;simp)
  refine Qz 6 70 1 rfl ?_;simp;refine Qj (Qc (sl':=[(6,.sl 0 1 0 (Ov (ls.take 0)).length),(25,.list (ls.map LP)),(26,.i ls.length),(27,.i 0)]) ?_ (by simp[Sm]));refine Qi (F:=λ(u:Nat×Nat×List AObj)=>⟨[(6,.sl u.2.1 1 0 (Ov (ls.take u.1)).length),(25,.list (ls.map LP)),(26,.i ls.length),(27,.i u.1)],u.2.2⟩)
   (λu=>u.1<=ls.length/\u.2.2[u.2.1]?=some (.arr 70 1 ((Ov (ls.take u.1)).map encP))) (λu=>ls.length - u.1) ?_ (0,0,[.arr 70 1 []]) ⟨by simp,by simp[Sm]⟩
  rintro⟨j,q,H2⟩ ⟨hj,g1⟩ ih;simp only at hj g1 ih |-;repeat(refine s_ ?_;simp)
  refine Qa rfl (λz8=>?_) (λza=>?_)
  ·have z1:j<ls.length:=by simpa using z8
   have hw:=wz j (by omega);have zc:=w0z ls (j+1);have hs:=Kb ls j z1;have z7:(Ov (ls.take (j+1))).length=(Ov (ls.take j)).length+ls[j].length:=by rw[hs,z_]
   have zb:=λ(q':Nat) (H':List AObj) (h:H'[q']?=some (.arr 70 1 ((Ov (ls.take j)++ls[j]).map encP)))=>ih (j+1,q',H') ⟨by simp;omega,by rw[hs];exact h⟩ (by simp;omega);clear ih;simp only[hs]at zb;rw[z7]at zc;clear hs z7;generalize Ov (ls.take j)=acc at *
   repeat(refine s_ ?_;simp[z1])
   refine apS T87 T70 ?_;simp[Qb g1,Qg g1,g1];refine⟨by simp[Wf,Qb g1,Qg g1,g1]<;>omega,?_⟩;repeat(refine s_ ?_;simp[hw])
   exact Qc (sl':=[(6,.sl H2.length 1 0 (acc.length+ls[j].length)),(25,.list (ls.map LP)),(26,.i ls.length),(27,.i (j+1:Nat))]) (by
    have:=zb H2.length (H2.set q .dead++[.arr 70 1 ((acc++ls[j]).map encP)]) (by rw[zH (by simp)];simp);simpa using this) (by simp)
  have z6:j=ls.length:=by simp at za;omega
  subst z6;rw[X4]at g1;rw[yB];repeat(refine s_ ?_;simp[g1])
  rw[zT (by simp)]
 repeat(refine s_ ?_;simp)
 refine Q3 rfl rfl (k1y [] n h0 (by omega)) rfl ?_;rintro r H' ⟨rfl,rfl⟩;simp;repeat(refine s_ ?_;simp)
 refine Qj (Qc (sl':=[(6,.sl 0 1 0 (Ov (ls.take 0)).length),(25,.list (ls.map LP)),(26,.i ls.length),(27,.i 0)]) ?_ (by simp[Sm]));refine Qi (F:=λ(u:Nat×Nat×List AObj)=>⟨[(6,.sl u.2.1 1 0 (Ov (ls.take u.1)).length),(25,.list (ls.map LP)),(26,.i ls.length),(27,.i u.1)],u.2.2⟩)
  (λu=>u.1<=ls.length/\u.2.2[u.2.1]?=some (.arr 70 1 ((Ov (ls.take u.1)).map encP))) (λu=>ls.length - u.1) ?_ (0,0,[.arr 70 1 []]) ⟨by simp,by simp[Sm]⟩
 rintro⟨j,q,H2⟩ ⟨hj,g1⟩ ih;simp only at hj g1 ih |-;repeat(refine s_ ?_;simp)
 refine Qa rfl (λz8=>?_) (λza=>?_)
 ·have z1:j<ls.length:=by simpa using z8
  have hw:=wz j (by omega);have zc:=w0z ls (j+1);have hs:=Kb ls j z1;have z7:(Ov (ls.take (j+1))).length=(Ov (ls.take j)).length+ls[j].length:=by rw[hs,z_]
  have zb:=λ(q':Nat) (H':List AObj) (h:H'[q']?=some (.arr 70 1 ((Ov (ls.take j)++ls[j]).map encP)))=>ih (j+1,q',H') ⟨by simp;omega,by rw[hs];exact h⟩ (by simp;omega);clear ih;simp only[hs]at zb;rw[z7]at zc;clear hs z7;generalize Ov (ls.take j)=acc at *
  repeat(refine s_ ?_;simp[z1])
  refine apS T87 T70 ?_;simp[Qb g1,Qg g1,g1];refine⟨by simp[Wf,Qb g1,Qg g1,g1]<;>omega,?_⟩;repeat(refine s_ ?_;simp[hw])
  exact Qc (sl':=[(6,.sl H2.length 1 0 (acc.length+ls[j].length)),(25,.list (ls.map LP)),(26,.i ls.length),(27,.i (j+1:Nat))]) (by
   have:=zb H2.length (H2.set q .dead++[.arr 70 1 ((acc++ls[j]).map encP)]) (by rw[zH (by simp)];simp);simpa using this) (by simp)
 have z6:j=ls.length:=by simp at za;omega
 subst z6;rw[X4]at g1;rw[yB];repeat(refine s_ ?_;simp[g1])
 rw[zT (by simp)]
end
section
open Go.Maps Go.RowKit
attribute [local irreducible] F2 Ns Wl Lu c1v
end
section
open Go.Maps Go.RowKit
attribute [simp] d2x d2l d2s g2y T66 T41
def Ya(a:Aut)(j k:Nat):List Mv:=(a.mv.take j).filter λm=>decide (m.src=(k:Int)) && !Wj m.on
def y18(a:Aut)(k:Nat):Ya a a.mv.length k=We a k:=by simp[Ya,We]
def Im(a:Aut)(k:Nat):Ya a 0 k=[]:=by simp[Ya]
def k0i(a:Aut){j:Nat}(h:j<a.mv.length)(k:Nat):Ya a (j+1) k=Ya a j k++(if decide (a.mv[j].src=(k:Int)) && !Wj a.mv[j].on then [a.mv[j]]else []):=by
 unfold Ya;rw[zR h,vV]
 congr 1
 rw[List.filter_cons,List.filter_nil]
def q1l(a:Aut)(j k:Nat):(Ya a j k).length<=a.mv.length:=by unfold Ya;refine yL (xG _ _) ?_;rw[xY];omega
def Ys(l:List Mv):AV:= .list (l.map encMv)
def Y7(a:Aut):List AV:=(yR a.fin.length).map λk:Nat=>Ys (We a k)
def Wp(a:Aut):List AV:=[.i a.types,.list (a.fin.map .bool),.list (a.mv.map encMv),.list (Y7 a)]
def Yd(a:Aut):AV:= .agg (Wp a)
def D5(p:Nat)(xs:List Mv):AV:=if xs=[]then .nils else .sl p 3 0 xs.length
def K9(n:Nat)(L:Nat->Nat)(rs:Nat->List Mv):List AV:=(yR n).map λk=>D5 (L k) (rs k)
def Pa(n:Nat)(L:Nat->Nat)(rs:Nat->List Mv):(K9 n L rs).length=n:=by simp[K9]
def Je{n:Nat}(L:Nat->Nat)(rs:Nat->List Mv){k:Nat}(h:k<n):(K9 n L rs)[k]?=some (D5 (L k) (rs k)):=by simp[K9,h]
structure MR (K:List AObj) (n o:Nat) (rs:Nat->List Mv) (L:Nat->Nat) (H:List AObj):Prop where
 out:H[o]?=some (.va 23 1 (K9 n L rs))
 leaf:∀k,k<n->rs k≠[]->H[L k]?=some (.arr 73 3 ((rs k).map encMv))
 inj:∀k k',k<n->k'<n->rs k≠[]->rs k'≠[]->L k=L k'->k=k'
 ne:∀k,k<n->rs k≠[]->L k≠o
 geo:K.length<=o
 geL:∀k,k<n->rs k≠[]->K.length<=L k
 keep:∀j,j<K.length->H[j]? =K[j]?
def MR.grow{K:List AObj}{n o:Nat}{rs:Nat->List Mv}{L:Nat->Nat}{H:List AObj}(h:MR K n o rs L H)(E:List AObj):MR K n o rs L (H++E):=by have z1:=h.geo;have ho:=Qf h.out;exact⟨Qb h.out E,λk hk hn=>Qb (h.leaf k hk hn) E,h.inj,h.ne,h.geo,h.geL,λj hj=>by rw[zF (by omega)];exact h.keep j hj⟩
def MR.put {K:List AObj} {n o:Nat} {rs:Nat->List Mv} {L:Nat->Nat} {H H':List AObj} (h:MR K n o rs L H) {i:Nat} (hi:i<n) {m:Mv} {np:Nat} (zc:H.length<=np)
  (za:H'[o]?=some (.va 23 1 ((K9 n L rs).set i (.sl np 3 0 ((rs i).length+1))))) (z6:H'[np]?=some (.arr 73 3 ((rs i++[m]).map encMv)))
  (hk:∀j,j<H.length->j≠o->(rs i≠[]->j≠L i)->H'[j]? =H[j]?):MR K n o (λk=>if k=i then rs i++[m]else rs k) (λk=>if k=i then np else L k) H':=by
 have lo:=Qf h.out;have lL:=λk hk hn=>Qf (h.leaf k hk hn);refine⟨?_,λk z1 hn=>?_,λk k' z1 z7 hn z8 e=>?_,λk z1 hn=>?_,h.geo,λk z1 hn=>?_,λj hj=>?_⟩
 ·rw[za]
  congr 2
  refine xN λk=>?_;by_cases z1:k<n
  ·rw[Je _ _ z1];by_cases e:k=i
   ·subst e;rw[zL (by rw[Pa];exact z1)];simp[D5]
   rw[zE (λe'=>e e'.symm),Je _ _ z1];simp[e]
  rw[xD (by rw[List.length_set,Pa];omega),xD (by rw[Pa];omega)]
 ·by_cases e:k=i
  ·subst e;simpa using z6
  simp only[e,if_false]at hn |-;rw[hk _ (lL k z1 hn) (h.ne k z1 hn) (λzb e'=>e (h.inj k i z1 hi hn zb e'))];exact h.leaf k z1 hn
 ·by_cases e1:k=i
  ·by_cases e2:k'=i
   ·rw[e1,e2]
   simp only[e1,e2,if_true,if_false]at e z8;have:=lL k' z7 z8;omega
  by_cases e2:k'=i
  ·simp only[e1,e2,if_true,if_false]at e hn;have:=lL k z1 hn;omega
  simp only[e1,e2,if_false]at e hn z8;exact h.inj k k' z1 z7 hn z8 e
 ·by_cases e:k=i
  ·simp only[e,if_true];omega
  simp only[e,if_false]at hn |-;exact h.ne k z1 hn
 ·have zd:=h.geo;by_cases e:k=i
  ·simp only[e,if_true];omega
  simp only[e,if_false]at hn |-;exact h.geL k z1 hn
 have ze:=h.geo;rw[hk j (by omega) (by omega) (λzb e=>by have:=h.geL i hi zb;omega)];exact h.keep j hj
def q09(n:Nat)(L:Nat->Nat)(rs:Nat->List Mv)(k:Nat):List AV:=(yR n).map λi=>if i<k/\rs i≠[]then Ys (rs i)else D5 (L i) (rs i)
section
variable {P:Program} [Env P] {nt kk:Nat} {cd:Code} {Q:Exit->AS->Prop}
def d0z(n:Nat)(L:Nat->Nat)(rs:Nat->List Mv):q09 n L rs 0=K9 n L rs:=by unfold q09 K9;exact xC λi _=>by rw[if_neg (by omega)]
def f1f{n:Nat}{L:Nat->Nat}{rs:Nat->List Mv}{k:Nat}(h:rs k=[]):q09 n L rs (k+1)=q09 n L rs k:=by
 unfold q09;refine xC λi _=>?_;by_cases e:i=k
 ·subst e;simp[h]
 by_cases h2:i<k
 ·simp[h2,show i<k+1 by omega]
 simp[h2,show ¬i<k+1 by omega]
def d1l{i c:Nat}{ys:List AV}{xs:List Mv}{p:Nat}(h:xs=[]\/p≠i):(D5 p xs).fz i c ys=D5 p xs:=by
 unfold D5;split
 ·simp[AV.fz]
 rw[AV.fz,if_neg];rintro⟨e,_⟩;rcases h with h|h
 ·contradiction
 exact h e
def c0o{n:Nat}{L:Nat->Nat}{rs:Nat->List Mv}(z1:∀k k',k<n->k'<n->rs k≠[]->rs k'≠[]->L k=L k'->k=k'){k:Nat}(hk:k<n)(h:rs k≠[]):
  (q09 n L rs k).map (AV.fz (L k) 3 ((rs k).map encMv))=q09 n L rs (k+1):=by
 unfold q09;rw[vX];refine xC λi hi=>?_;have z6:=yT.1 hi;simp only[Function.comp_apply];by_cases e:i=k
 ·subst e;simp only[Nat.lt_irrefl,false_and,if_false];rw[if_pos ⟨by omega,h⟩,D5,if_neg h,AV.fz,if_pos ⟨rfl,rfl,by simp⟩];simp[Ys,zT]
 by_cases h2:i<k/\rs i≠[]
 ·rw[if_pos h2,if_pos ⟨by omega,h2.2⟩];simp[Ys,AV.fz]
 rw[if_neg h2,if_neg (λh3=>h2 ⟨by omega,h3.2⟩)];refine d1l ?_;by_cases hr:rs i=[]
 ·exact .inl hr
 exact .inr λe2=>e (z1 i k z6 hk hr h e2)
def MR.freeze {n o:Nat} {rs:Nat->List Mv} {L:Nat->Nat} {sl:List (Nat×AV)} (z1:∀k k',k<n->k'<n->rs k≠[]->rs k'≠[]->L k=L k'->k=k') (z7:∀k,k<n->rs k≠[]->L k≠o)
  (zb:∀k,k<n->rs k≠[]->sl.map (λp=>(p.1,p.2.fz (L k) 3 ((rs k).map encMv)))=sl):∀(d k:Nat) (H:List AObj),k+d=n->H[o]?=some (.va 23 1 (q09 n L rs k))->(∀i,k<=i->i<n->rs i≠[]->H[L i]?=some (.arr 73 3 ((rs i).map encMv)))->
  (∀H',H'[o]?=some (.va 23 1 (q09 n L rs n))->(∀j,j<H.length->j≠o->(∀i,k<=i->i<n->rs i≠[]->j≠L i)->H'[j]? =H[j]?)->AWP P nt kk cd Q ⟨sl,H'⟩)->AWP P nt kk cd Q ⟨sl,H⟩
 |0,k,H,hd,ho,hl,h=>by
  have:k=n:=by omega
  subst this;exact h H ho λ_ _ _ _=>rfl
 |d+1,k,H,hd,ho,hl,h=>by
  by_cases hr:rs k=[]
  ·refine MR.freeze z1 z7 zb d (k+1) H (by omega) (by rw[f1f hr];exact ho) (λi hi=>hl i (by omega)) λH' zc zd=>h H' zc λj hj z8 za=>zd j hj z8 λi hi=>za i (by omega)
  have z6:k<n:=by omega
  have zg:=z7 k z6 hr;have zh:=hl k (zQ _) z6 hr;refine I7 (L k) zh o ho (Ne.symm zg) rfl ?_;rw[zb k z6 hr];have zi:=Qf ho;have e:AObj.fz (L k) 3 ((rs k).map encMv) (.va 23 1 (q09 n L rs k))= .va 23 1 (q09 n L rs (k+1)):=by rw[AObj.fz,c0o z1 z6 hr]
  rw[e];refine MR.freeze z1 z7 zb d (k+1) _ (by omega) (zL (by simpa using zi)) (λi hi ze zf=>?_) λH' zc zd=>h H' zc λj hj z8 za=>?_
  ·rw[zE (Ne.symm (z7 i ze zf)),zE (λe2=>by have:=z1 k i z6 ze hr zf e2;omega)];exact hl i (by omega) ze zf
  rw[zd j (by simpa using hj) z8 λi hi=>za i (by omega),zE (Ne.symm z8),zE (Ne.symm (za k (zQ _) z6 hr))]
end
def x24(n:Nat)(L:Nat->Nat)(rs:Nat->List Mv):(q09 n L rs n).all (λx=>x.cells.all AV.pure)=true/\(q09 n L rs n).map AV.nrm=(yR n).map λk=>Ys (rs k):=by
 have hc:∀i,i<n->(if i<n/\rs i≠[]then Ys (rs i)else D5 (L i) (rs i))=if rs i=[]then .nils else Ys (rs i):=λi hi=>by
  by_cases hr:rs i=[]
  ·rw[if_neg (λh=>h.2 hr),if_pos hr,D5,if_pos hr]
  rw[if_pos ⟨hi,hr⟩,if_neg hr]
 have e:q09 n L rs n=(yR n).map λi=>if rs i=[]then .nils else Ys (rs i):=xC λi hi=>hc i (yT.1 hi)
 rw[e];constructor
 ·rw[List.all_map,zW];intro i _;simp only[Function.comp_apply];split
  ·simp[AV.cells,AV.pure]
  simp[Ys,AV.cells,AV.pure]
 rw[vX];refine xC λi _=>?_;simp only[Function.comp_apply];split
 ·rename_i h;rw[h];simp[Ys,AV.nrm]
 simp[Ys,AV.nrm]
attribute [local irreducible] Ya E5 We
def Ct(a:Aut)(ha:OkA a):PC prog 57 [encA a] (λr=>r=Yd a):=by
 refine pcB func57 results57 ntmps57 ?_;simp only[Qe];simp only[encA];have y4:=ha.fin;have yf:=ha.mvs;repeat(refine s_ ?_;simp)
 refine Ig (P:=prog) tOk mixed [7] (.val 0 (.val 1 (.val 2 (.val 3 (.two 4 (.val 5 (.one 6 (.one 7 (.done)))) 6 (.one 4 (.val 5 (.one 7 (.done))))))))) (λS'=>∃o c:Nat,o≠c/\2<=o/\2<=c/\S'.hp[0]?=some (.vars (Qk a))/\S'.hp[1]?=some (.vars [.i 0,.nils,.nils,.nils])/\S'.hp[o]?=some (.arr 23 1 (List.replicate a.fin.length .nils))/\S'.hp[c]?=some (.vars [.i a.types,.list (a.fin.map .bool),.list (a.mv.map encMv),.sl o 1 0 a.fin.length])/\look S'.sl 1=some (.vptr 0 0)/\look S'.sl 2=some (.vptr 1 0)/\look S'.sl 3=some (.vptr c 0)) rfl (by kernel_rfl) ?_ ?_
 ·simp
  repeat' (first
   |refine And.intro ?_ ?_
   |(refine Rj tOk rfl rfl rfl d2l rfl T23 rfl rfl rfl (n:=a.fin.length) (by simp;omega) (by unfold maxLen;omega) .nils rfl ?_;simp))
  ·exact⟨2,3,by simp[Qk]⟩
  exact⟨3,2,by simp[Qk]⟩
 rintro⟨sl,H⟩ ⟨o,c,zq,y5,yg,h0,h1,ho,hc,s1,s2,s3⟩;simp only at h0 h1 ho hc s1 s2 s3;simp;refine Qn (sl':=[(1,.vptr 0 0),(2,.vptr 1 0),(3,.vptr c 0)]) ?_ (by simp[s1,s2,s3]);refine Hg o ho ?_;refine Wh λZ hZ=>?_;have z0:Z[0]?=some (.vars (Qk a)):=by rw[hZ,zE (by omega)];exact h0
 have zc:Z[c]?=some (.vars [.i a.types,.list (a.fin.map .bool),.list (a.mv.map encMv),.sl o 1 0 a.fin.length]):=by rw[hZ,zE zq];exact hc
 have zM:MR [.vars (Qk a),.vars [.i 0,.nils,.nils,.nils]] a.fin.length o (Ya a 0) (λ_=>0) Z:=by
  refine⟨?_,λk _ hn=>absurd (Im a k) hn,λk _ _ _ hn=>absurd (Im a k) hn,λk _ hn=>absurd (Im a k) hn,by simpa using y5,λk _ hn=>absurd (Im a k) hn,λj hj=>?_⟩
  ·rw[hZ,zL (Qf ho)]
   congr 2
   rw[eq_comm,List.eq_replicate_iff];refine⟨Pa _ _ _,λx hx=>?_⟩;obtain⟨k,_,rfl⟩:=zO.1 hx;simp[D5,Im]
  simp only[yV,tP]at hj;rw[hZ,zE (by omega)];rcases j with _|_|j
  ·exact h0
  ·exact h1
  omega
 clear hZ h0 h1 ho hc;clear H;repeat(refine s_ ?_;simp[z0])
 refine Qj (Qc (sl':=[(1,.vptr 0 0),(2,.vptr 1 0),(3,.vptr c 0),(15,.list (a.mv.map encMv)),(16,.i a.mv.length),(17,.i (0:Nat))]) ?_ (by simp));refine Qi (F:=λ(u:Nat×(Nat->Nat)×List AObj)=>⟨[(1,.vptr 0 0),(2,.vptr 1 0),(3,.vptr c 0),(15,.list (a.mv.map encMv)),(16,.i a.mv.length),(17,.i u.1)],u.2.2⟩)
  (λu=>u.1<=a.mv.length/\u.2.2[c]?=some (.vars [.i a.types,.list (a.fin.map .bool),.list (a.mv.map encMv),.sl o 1 0 a.fin.length])/\MR [.vars (Qk a),.vars [.i 0,.nils,.nils,.nils]] a.fin.length o (Ya a u.1) u.2.1 u.2.2) (λu=>a.mv.length - u.1) ?_ (0,λ_=>0,Z) ⟨yW _,zc,zM⟩
 clear z0 zc zM;clear Z;rintro⟨j,L,G⟩ ⟨hj,gc,gM⟩ ih;simp only at hj gc gM ih |-;repeat(refine s_ ?_;simp)
 refine Qa rfl (λy6=>?_) (λy7=>?_)
 ·have zd:j<a.mv.length:=by simpa using y6
  have hw:=wz j (by omega);have y0:=k0i a zd;have y8:=q1l a j;have zr:=ha.mv _ (zK zd);have zt:=S0 ha (zK zd);have zo:=λL' G'=>ih (j+1,L',G');simp only at zo;repeat(refine s_ ?_;simp[zd])
  generalize a.mv[j]=m at *;refine pcL (Dy a.types.toNat m.on m.on zr.on.wf zr.on.wf (λs hs=>by have:=zt s hs;omega) (λs hs=>by have:=zt s hs;omega) (by have:=ha.types;omega)) ?_
  simp;rw[q01 zr.on.wf];cases hv:Wj m.on with
  |true=>
   have ze:Ya a (j+1)=Ya a j:=funext λk=>by rw[y0 k,hv];simp
   rw[ze]at zo;simp[Hw,encSy];repeat(refine s_ ?_;simp)
   refine Qq rfl ?_;repeat(refine s_ ?_;simp[hw])
   refine Qc (sl':=[(1,.vptr 0 0),(2,.vptr 1 0),(3,.vptr c 0),(15,.list (a.mv.map encMv)),(16,.i a.mv.length),(17,.i (j+1:Nat))]) ?_ (by simp);exact zo L _ ⟨by omega,Qb gc _,gM.grow _⟩ (by omega)
  |false=>
   obtain⟨k,hk⟩:∃k:Nat,m.src=k:=⟨m.src.toNat,by have:=zr.src.1;omega⟩
   have z7:k<a.fin.length:=by have:=zr.src.2;omega
   have ze:Ya a (j+1)=λk'=>if k'=k then Ya a j k++[m]else Ya a j k':=funext λk'=>by
    rw[y0 k',hv];by_cases e:k'=k
    ·subst e;simp[hk]
    have:¬m.src=(k':Int):=by omega
    simp[e,this]
   rw[ze]at zo;simp[Hw,encSy];repeat(refine s_ ?_;simp)
   refine Qq rfl ?_;refine Wh λZ hZ=>?_;have zc:Z[c]?=some (.vars [.i a.types,.list (a.fin.map .bool),.list (a.mv.map encMv),.sl o 1 0 a.fin.length]):=by rw[hZ];exact Qb gc _
   have zM:MR [.vars (Qk a),.vars [.i 0,.nils,.nils,.nils]] a.fin.length o (Ya a j) L Z:=by rw[hZ];exact gM.grow _
   have zm:Z[G.length]?=some (.vars [.i m.src,.i m.dst,.list (m.on.map encL)]):=by rw[hZ,zH (by simp)];simp
   clear hZ gc gM y0 ze;generalize G.length=g at *;clear G
   have z6:=Je L (Ya a j) z7;have zj:=Pa a.fin.length L (Ya a j);have z8:=zM.out;have zu:=zM.leaf k z7;rw[hk]at zm;have zb:∀M,(Z++M)[c]?=some (.vars [.i a.types,.list (a.fin.map .bool),.list (a.mv.map encMv),.sl o 1 0 a.fin.length]):=λM=>Qb zc M;have outA:∀M,(Z++M)[o]?=some (.va 23 1 (K9 a.fin.length L (Ya a j))):=λM=>Qb z8 M;have zf:∀M,(Z++M)[g]?=some (.vars [.i k,.i m.dst,.list (m.on.map encL)]):=λM=>Qb zm M;have zk:∀M hh,(Z++M)[c]'hh= .vars [.i a.types,.list (a.fin.map .bool),.list (a.mv.map encMv),.sl o 1 0 a.fin.length]:=λM hh=>(yH hh).2 (zb M);have outH:∀M hh,(Z++M)[o]'hh= .va 23 1 (K9 a.fin.length L (Ya a j)):=λM hh=>(yH hh).2 (outA M);have zl:∀M hh,(Z++M)[g]'hh= .vars [.i k,.i m.dst,.list (m.on.map encL)]:=λM hh=>(yH hh).2 (zf M);repeat(refine s_ ?_;simp)
   generalize zv:K9 a.fin.length L (Ya a j)=RC at *
   have yh:=y8 k;generalize zh:Ya a j k=rs at *
   by_cases hr0:rs=[]
   ·rw[D5,if_pos hr0]at z6;have zi:∀hh,RC[k]'hh= .nils:=λhh=>by rw[zI hh]at z6;exact Option.some.inj z6
    refine Ig (P:=prog) tOk mixed [12,14] (.val 0 (.val 2 (.val 4 (.val 5 (.val 6 (.val 7 (.val 8 (.val 9 (.val 10 (.three 1 (.two 3 (.one 11 (.one 12 (.val 13 (.one 14 (.done))))) 11 (.two 3 (.one 12 (.val 13 (.one 14 (.done)))) 12 (.val 3 (.val 13 (.one 14 (.done)))))) 3 (.two 1 (.one 11 (.one 12 (.val 13 (.one 14 (.done))))) 11 (.two 1 (.one 12 (.val 13 (.one 14 (.done)))) 12 (.val 1 (.val 13 (.one 14 (.done)))))) 11 (.three 1 (.two 3 (.one 12 (.val 13 (.one 14 (.done)))) 12 (.val 3 (.val 13 (.one 14 (.done))))) 3 (.two 1 (.one 12 (.val 13 (.one 14 (.done)))) 12 (.val 1 (.val 13 (.one 14 (.done))))) 12 (.val 1 (.val 3 (.val 13 (.one 14 (.done)))))))))))))))) (λS'=>S'.hp=(Z++[AObj.arr 73 3 [.agg [.i k,.i m.dst,.list (m.on.map encL)]],AObj.arr 73 3 [.agg [.i k,.i m.dst,.list (m.on.map encL)]]]).set o (.va 23 1 (RC.set k (.sl (Z.length+1) 3 0 1)))/\look S'.sl 1=some (.vptr 0 0)/\look S'.sl 2=some (.vptr 1 0)/\look S'.sl 3=some (.vptr c 0)/\look S'.sl 15=some (.list (a.mv.map encMv))/\look S'.sl 16=some (.i a.mv.length)/\look S'.sl 17=some (.i j)) rfl (by kernel_rfl) ?_ ?_
    ·simp[zc,z8,zm,z6,zi,z7,zj,zb,outA,zf,zk,outH,zl]
     repeat' (first
      |refine And.intro ?_ ?_
      |(refine apS T23 T73 ?_;simp[zb,outA,zf,zk,outH,zl,z6,zi,z7,zj];refine⟨by simp[Wf]<;>omega,?_⟩;simp[zb,outA,zf,zk,outH,zl,z6,zi,z7,zj]))
    rintro⟨sl,E⟩ ⟨rfl,s1,s2,s3,s15,s16,s17⟩;simp only at s1 s2 s3 s15 s16 s17;simp;refine Qn (sl':=[(1,.vptr 0 0),(2,.vptr 1 0),(3,.vptr c 0),(15,.list (a.mv.map encMv)),(16,.i a.mv.length),(17,.i j)]) ?_ (by simp[s1,s2,s3,s15,s16,s17]);repeat(refine s_ ?_;simp[hw])
    refine Qc (sl':=[(1,.vptr 0 0),(2,.vptr 1 0),(3,.vptr c 0),(15,.list (a.mv.map encMv)),(16,.i a.mv.length),(17,.i (j+1:Nat))]) ?_ (by simp);have zx:=Qf z8;have za:=zM.put z7 (m:=m) (np:=Z.length+1) (H':=(Z++[AObj.arr 73 3 [.agg [.i k,.i m.dst,.list (m.on.map encL)]],AObj.arr 73 3 [.agg [.i k,.i m.dst,.list (m.on.map encL)]]]).set o (.va 23 1 (RC.set k (.sl (Z.length+1) 3 0 1)))) (by omega)
     (by rw[zL (by simp;omega),zv,zh,hr0];rfl) (by rw[zE (by omega),zH (by omega),zh,hr0];simp[hk]) (λjj h1 h2 _=>by rw[zE (Ne.symm h2),zF h1])
    rw[zh]at za;exact zo _ _ ⟨by omega,by rw[zE zq];exact zb _,za⟩ (by omega)
   rw[D5,if_neg hr0]at z6;have zi:∀hh,RC[k]'hh= .sl (L k) 3 0 rs.length:=λhh=>by rw[zI hh]at z6;exact Option.some.inj z6
   have zp:=zu hr0;have hlo:=zM.ne k z7 (by rw[zh];exact hr0);have y9:L k≠c:=λe=>by rw[e,zc]at zp;simp at zp
   have ya:L k≠g:=λe=>by rw[e,zm]at zp;simp at zp
   have yi:=Qf zp;have zg:∀M,(Z++M)[L k]?=some (.arr 73 3 (rs.map encMv)):=λM=>Qb zp M;have zn:∀M hh,(Z++M)[L k]'hh= .arr 73 3 (rs.map encMv):=λM hh=>(yH hh).2 (zg M);generalize yb:L k=p at *
   have outS:∀M M',((Z++M).set p .dead++M')[o]?=some (.va 23 1 RC):=λM M'=>Qb (Qd hlo (outA M) _) M';have outSH:∀M M' hh,((Z++M).set p .dead++M')[o]'hh= .va 23 1 RC:=λM M' hh=>(yH hh).2 (outS M M');have zw:∀M M',((Z++M).set p .dead++M')[c]?=some (.vars [.i a.types,.list (a.fin.map .bool),.list (a.mv.map encMv),.sl o 1 0 a.fin.length]):=λM M'=>Qb (Qd y9 (zb M) _) M';have zcSH:∀M M' hh,((Z++M).set p .dead++M')[c]'hh= .vars [.i a.types,.list (a.fin.map .bool),.list (a.mv.map encMv),.sl o 1 0 a.fin.length]:=λM M' hh=>(yH hh).2 (zw M M');have zy:∀M M',((Z++M).set p .dead++M')[g]?=some (.vars [.i k,.i m.dst,.list (m.on.map encL)]):=λM M'=>Qb (Qd ya (zf M) _) M';have zmSH:∀M M' hh,((Z++M).set p .dead++M')[g]'hh= .vars [.i k,.i m.dst,.list (m.on.map encL)]:=λM M' hh=>(yH hh).2 (zy M M');refine Ig (P:=prog) tOk mixed [12,14] (.val 0 (.val 2 (.val 4 (.val 5 (.val 6 (.val 7 (.val 8 (.val 9 (.val 10 (.three 1 (.two 3 (.one 11 (.one 12 (.val 13 (.one 14 (.done))))) 11 (.two 3 (.one 12 (.val 13 (.one 14 (.done)))) 12 (.val 3 (.val 13 (.one 14 (.done)))))) 3 (.two 1 (.one 11 (.one 12 (.val 13 (.one 14 (.done))))) 11 (.two 1 (.one 12 (.val 13 (.one 14 (.done)))) 12 (.val 1 (.val 13 (.one 14 (.done)))))) 11 (.three 1 (.two 3 (.one 12 (.val 13 (.one 14 (.done)))) 12 (.val 3 (.val 13 (.one 14 (.done))))) 3 (.two 1 (.one 12 (.val 13 (.one 14 (.done)))) 12 (.val 1 (.val 13 (.one 14 (.done))))) 12 (.val 1 (.val 3 (.val 13 (.one 14 (.done)))))))))))))))) (λS'=>S'.hp=((Z++[AObj.arr 73 3 [.agg [.i k,.i m.dst,.list (m.on.map encL)]]]).set p .dead++[AObj.arr 73 3 (rs.map encMv++[.agg [.i k,.i m.dst,.list (m.on.map encL)]])]).set o (.va 23 1 (RC.set k (.sl (Z.length+1) 3 0 (rs.length+1))))/\look S'.sl 1=some (.vptr 0 0)/\look S'.sl 2=some (.vptr 1 0)/\look S'.sl 3=some (.vptr c 0)/\look S'.sl 15=some (.list (a.mv.map encMv))/\look S'.sl 16=some (.i a.mv.length)/\look S'.sl 17=some (.i j)) rfl (by kernel_rfl) ?_ ?_
   ·simp[zc,z8,zm,z6,zi,z7,zj,zb,outA,zf,zk,outH,zl,zg,zn]
    repeat' (first
     |refine And.intro ?_ ?_
     |(refine apS T23 T73 ?_;simp[zb,outA,zf,zk,outH,zl,z6,zi,z7,zj,zg,zn,outS,outSH,zw,zcSH,zy,zmSH];refine⟨by simp[Wf]<;>omega,?_⟩;simp[zb,outA,zf,zk,outH,zl,z6,zi,z7,zj,outS,outSH,zw,zcSH,zy,zmSH])
     |(refine apS T23 T73 ?_;simp[zb,outA,zf,zk,outH,zl,z6,zi,z7,zj,zg,zn,outS,outSH,zw,zcSH,zy,zmSH];simp[Wf]<;>omega)
     |omega)
   rintro⟨sl,E⟩ ⟨rfl,s1,s2,s3,s15,s16,s17⟩;simp only at s1 s2 s3 s15 s16 s17;simp;refine Qn (sl':=[(1,.vptr 0 0),(2,.vptr 1 0),(3,.vptr c 0),(15,.list (a.mv.map encMv)),(16,.i a.mv.length),(17,.i j)]) ?_ (by simp[s1,s2,s3,s15,s16,s17]);repeat(refine s_ ?_;simp[hw])
   refine Qc (sl':=[(1,.vptr 0 0),(2,.vptr 1 0),(3,.vptr c 0),(15,.list (a.mv.map encMv)),(16,.i a.mv.length),(17,.i (j+1:Nat))]) ?_ (by simp);have zx:=Qf z8;have za:=zM.put z7 (m:=m) (np:=Z.length+1) (H':=((Z++[AObj.arr 73 3 [.agg [.i k,.i m.dst,.list (m.on.map encL)]]]).set p .dead++[AObj.arr 73 3 (rs.map encMv++[.agg [.i k,.i m.dst,.list (m.on.map encL)]])]).set o (.va 23 1 (RC.set k (.sl (Z.length+1) 3 0 (rs.length+1))))) (by omega)
    (by rw[zL (by simp;omega),zv,zh]) (by rw[zE (by omega),zH (by simp),zh];simp[hk]) (λjj h1 h2 h3=>by
     have h4:p≠jj:=λe=>h3 (by rw[zh];exact hr0) (by rw[yb];exact e.symm);rw[zE (Ne.symm h2),zF (by simp;omega),zE h4,zF h1])
   rw[zh]at za;exact zo _ _ ⟨by omega,by rw[zE zq];exact zw _ _,za⟩ (by omega)
 have y1:j=a.mv.length:=by simp at y7;omega
 subst y1;refine Qn (sl':=[(1,.vptr 0 0),(2,.vptr 1 0),(3,.vptr c 0)]) ?_ (by simp);refine MR.freeze (n:=a.fin.length) (o:=o) gM.inj gM.ne (λk hk hn=>by simp[AV.fz]) a.fin.length 0 G (by omega) (by rw[d0z];exact gM.out) (λk _ hk hn=>gM.leaf k hk hn) λH' y2 zz=>?_;obtain⟨yc,yd⟩:=x24 a.fin.length L (Ya a a.mv.length);have y3:H'[c]?=some (.vars [.i a.types,.list (a.fin.map .bool),.list (a.mv.map encMv),.sl o 1 0 a.fin.length]):=by rw[zz c (Qf gc) (Ne.symm zq) (λi _ hi hr e=>by have:=gM.leaf i hi hr;rw[<-e,gc]at this;simp at this)];exact gc
 have yj:H'[0]?=some (.vars (Qk a)):=by rw[zz 0 (by have:=Qf gM.out;omega) (by omega) (λi _ hi hr e=>by have:=gM.geL i hi hr;simp at this;omega)];exact gM.keep 0 (by simp)
 have ye:H'[1]?=some (.vars [.i 0,.nils,.nils,.nils]):=by rw[zz 1 (by have:=Qf gM.out;omega) (by omega) (λi _ hi hr e=>by have:=gM.geL i hi hr;simp at this;omega)];exact gM.keep 1 (by simp)
 have zx:=Qf y2;clear zz ih gM gc;refine Pq o y2 yc ?_;refine k0t o (zL zx) ?_;rw[yd,sd];refine Q6 o (zL zx) c (by rw[zE zq];exact y3) ?_;refine Wh λZ hZ=>?_;have zc:Z[c]?=some (.vars (Wp a)):=by rw[hZ,zL (by simpa using Qf y3)];simp[AV.fz,Wp,Y7,y18];rw[zT (by simp)]
 have z1:Z[1]?=some (.vars [.i 0,.nils,.nils,.nils]):=by rw[hZ,zE (by omega),zE (by omega),zE (by omega)];exact ye
 clear hZ;simp[AV.fz];unfold Yd Wp;unfold Wp at zc;repeat(refine s_ ?_;simp[zc,z1,Qh z1])
end
end Go.Abs
