/- Part Vi of the proof: steps on the way to the last part. No condition. -/
import Derived.Test.YtjmkolhkojgjpaaGreatDoorVh
import Derived.Test.YtjmkolhkojgjpaaGreatDoorVf
import Derived.Test.YtjmkolhkojgjpaaGreatDoorVc
import Derived.Test.YtjmkolhkojgjpaaGreatDoorVg
import Derived.DeepKeys4
import Derived.Test.YtjmkolhkojgjpaaGreatDoorVe
import Derived.Test.YtjmkolhkojgjpaaGreatDoorVd
set_option linter.all false
open List renaming take_succ_eq_append_getElem->zY,getElem_mem->zT,length_map->yL,take_length->yR,take_of_length_le->zZ,mem_map->zU,getElem?_map->z_,ext_getElem?->xQ,getElem?_set_self->zS,getElem?_eq_some_iff->zE,getElem?_set_ne->zH,getElem?_eq_none->xF,getElem?_eq_getElem->zP,getElem_eq_iff->yI,getElem?_append_right->zO,drop_eq_getElem_cons->wQ,drop_length->x_,getD->yV,map_nil->wT,length_filter_le->xN,append_nil->xO,getElem?_append_left->zI,map_append->xA,flatten_append->tG,length_append->yP
open Nat renaming le_refl->zW,zero_le->xP,not_lt_zero->sr
open Prod renaming ext->un
open Option renaming map_eq_some_iff->zX
set_option maxHeartbeats 8000000
set_option linter.unusedSimpArgs false
set_option maxRecDepth 100000
open Go.Proofs.Tryz
namespace Go.Abs
open Go Go.Proofs
section
open Go.Maps Go.RowKit
attribute [simp] T66 T41
def pqr(s:Int×Int):AV:= .agg [.i s.1,.i s.2]
abbrev LQp (l:List (Int×Int)):AV:= .list (l.map pqr)
end
section
open Go.Maps Go.RowKit
attribute [local irreducible] Pu toL
end
section
open Go.Maps Go.RowKit
def u2r(l:List (Int×Int)):(Y0 l).length=l.length:=(List.mergeSort_perm l pLe).length_eq
attribute [local irreducible] Pu toL Y0
end
section
open Go.Maps Go.RowKit
attribute [simp] T43
def f1q(a b:Aut):PC prog 40 [encA a,encA b] (λr=>r= .i (El a b)):=by
 refine pcB func40 results40 ntmps40 ?_;simp only[Qe];have cA:=Lo a;have cB:=Lo b;simp only[encA]at cA cB |-;obtain⟨R,hR⟩:∃R,El a b=R:=⟨_,rfl⟩
 rw[hR];unfold El at hR;repeat(refine s_ ?_;simp)
 refine pcL (cA) ?_;simp;repeat(refine s_ ?_;simp)
 refine Qa rfl (λh=>?_) (λh=>?_)
 ·rw[if_pos (by simpa using h)]at hR;repeat(refine s_ ?_;simp)
  exact hR
 rw[if_neg (by simpa using h)]at hR;repeat(refine s_ ?_;simp)
 refine pcL (cB) ?_;simp;repeat(refine s_ ?_;simp)
 refine Qa rfl (λh2=>?_) (λh2=>?_)
 ·rw[if_pos (by simpa using h2)]at hR;repeat(refine s_ ?_;simp)
  exact hR
 rw[if_neg (by simpa using h2)]at hR;repeat(refine s_ ?_;simp)
 refine Qa rfl (λh3=>?_) (λh3=>?_)
 ·rw[if_pos (by simpa using h3)]at hR;subst hR;repeat(refine s_ ?_;simp)
 rw[if_neg (by simpa using h3)]at hR;subst hR;repeat(refine s_ ?_;simp)
attribute [local irreducible] El Dq
def x05{α:Type}{p:α->Bool}{l:List α}{j:Nat}(h:j<l.length)(h1:(l.take j).all p=true):(l.take (j+1)).all p=p l[j]:=by rw[zY h,List.all_append,h1];simp
def all_false{α:Type}{p:α->Bool}{l:List α}{j:Nat}(h:j<l.length)(h1:p l[j]=false):l.all p=false:=by rw[List.all_eq_false];exact⟨_,zT h,by rw[h1];simp⟩
attribute [local irreducible] w09
def c1d(x:EqC):AV:= .agg [.i x.verdict,LQp x.pairs,LSy x.word]
def k19(a b:Aut)(x:EqC):Int:=if 2048<x.pairs.length\/4096<x.word.length then 5 else if x.pairs.all (λs=>decide (inS a s.1/\inS b s.2))=false then 6 else M4 a.types x.word
def f1t(n:Nat)(z:Int):(z<0/\¬(0<=z/\z<(n:Int)))\/(¬z<0/\(n:Int)<=z/\¬(0<=z/\z<(n:Int)))\/(¬z<0/\¬(n:Int)<=z/\(0<=z/\z<(n:Int))):=by omega
attribute [local irreducible] Ky
end
section
open Go.Maps Go.RowKit
attribute [local irreducible] El Ed
end
section
open Go.Maps Go.RowKit
attribute [local irreducible] Pu Q1 Zl Ez Nv Pp j2p
end
section
open Go.Maps Go.RowKit
def v1w(a:Aut):PC prog 25 [encA a,encA a] (λr=>r= .bool true):=by
 refine pcB func25 results25 ntmps25 ?_;simp only[Qe];simp only[encA];refine Wf 0 1 rfl rfl (λhlen=>?_);rw[yL]at hlen;refine Wf 0 2 rfl rfl (λz6=>?_);rw[yL]at z6;repeat(refine s_ ?_;simp)
 refine Qa rfl (λh=>by simp at h) (λ_=>?_);repeat(refine s_ ?_;simp)
 refine Qu a.fin.length (λ_=>True) (λj=>[(2,.vptr 0 0),(3,.vptr 1 0),(5,.i j)]) (λ_=>[.vars (Ql a),.vars (Ql a)]) rfl (by simp) (by simp) (by simp) (by simp) trivial ?_;intro j hj _ ih;repeat(refine s_ ?_;simp)
 refine Qa rfl (λz7=>?_) (λz8=>?_)
 ·have z1:j<a.fin.length:=by simpa using z7
  have hw:=wz j (by omega);repeat(refine s_ ?_;simp)
  refine Qn tOk mixed [] (.val 0 (.val 1 (.val 2 (.val 3 (.val 4 (.val 5 (.val 6 (.val 7 (.val 8 (.val 9 (.val 10 (.done)))))))))))) rfl (by kernel_rfl) ?_;simp[z1];refine Qa rfl (λh=>by simp at h) (λ_=>?_);repeat(refine s_ ?_;simp[hw])
  refine Qs _ (ih z1 trivial) rfl (by simp) ?_ (by simp) (by simp);simp
 repeat(refine s_ ?_;simp)
 refine Qu a.mv.length (λ_=>True) (λj=>[(2,.vptr 0 0),(3,.vptr 1 0),(6,.i j)]) (λ_=>[.vars (Ql a),.vars (Ql a)]) rfl (by simp) (by simp) (by simp) (by simp) trivial ?_;intro j2 zb _ za;repeat(refine s_ ?_;simp)
 refine Qa rfl (λz7=>?_) (λz8=>?_)
 ·have z1:j2<a.mv.length:=by simpa using z7
  have hw:=wz j2 (by omega);repeat(refine s_ ?_;simp)
  obtain⟨m,hm⟩:∃m,a.mv[j2]=m:=⟨_,rfl⟩
  refine Kb tOk mixed [12,13] (.val 0 (.val 1 (.val 2 (.val 3 (.val 4 (.val 5 (.val 7 (.three 6 (.val 8 (.three 9 (.two 10 (.one 11 (.one 12 (.one 13 (.done)))) 11 (.one 10 (.one 12 (.one 13 (.done))))) 10 (.two 9 (.one 11 (.one 12 (.one 13 (.done)))) 11 (.two 9 (.one 12 (.one 13 (.done))) 12 (.val 9 (.one 13 (.done))))) 11 (.two 9 (.one 10 (.one 12 (.one 13 (.done)))) 10 (.two 9 (.one 12 (.one 13 (.done))) 12 (.val 9 (.one 13 (.done))))))) 10 (.two 6 (.val 8 (.two 9 (.one 11 (.one 12 (.one 13 (.done)))) 11 (.two 9 (.one 12 (.one 13 (.done))) 12 (.val 9 (.one 13 (.done)))))) 11 (.two 6 (.val 8 (.two 9 (.one 12 (.one 13 (.done))) 12 (.val 9 (.one 13 (.done))))) 12 (.val 6 (.val 8 (.val 9 (.one 13 (.done))))))) 11 (.two 6 (.val 8 (.two 9 (.one 10 (.one 12 (.one 13 (.done)))) 10 (.two 9 (.one 12 (.one 13 (.done))) 12 (.val 9 (.one 13 (.done)))))) 10 (.two 6 (.val 8 (.two 9 (.one 12 (.one 13 (.done))) 12 (.val 9 (.one 13 (.done))))) 12 (.val 6 (.val 8 (.val 9 (.one 13 (.done))))))))))))))) (⟨[(2,.vptr 0 0),(3,.vptr 1 0),(6,.i j2),(7,.vptr 2 0),(8,.vptr 3 0)],[.vars (Ql a),.vars (Ql a),.vars [.i m.src,.i m.dst,.list (m.on.map encL)],.vars [.i m.src,.i m.dst,.list (m.on.map encL)]]⟩) rfl (by kernel_rfl) ?_ ?_;simp[z1,hm]
  ·repeat' apply And.intro
   all_goals first|(refine D8 ?_;simp;done)|exact Ha [0,1,3,2] (by simp) (by decide) (by simp) rfl (by simp) (by simp) (by simp)
  repeat(refine s_ ?_;simp)
  refine pcL (Bz m.on m.on) ?_;simp;repeat(refine s_ ?_;simp)
  refine Qa rfl (λh=>by simp at h) (λ_=>?_);repeat(refine s_ ?_;simp[hw])
  refine Qs _ (za z1 trivial) rfl (by simp) ?_ (by simp) (by simp);simp
 repeat(refine s_ ?_;simp)
end
section
open Go.Maps Go.RowKit
def Fm{α:Type}{l m:List α}{j:Nat}(h1:j<l.length)(h2:j<m.length)(ht:l.take j=m.take j)(e:l[j]=m[j]):l.take (j+1)=m.take (j+1):=by rw[zY h1,zY h2,ht,e]
def Nd{α:Type}{l m:List α}{j:Nat}(h1:j<l.length)(h2:j<m.length)(e:l[j]≠m[j]):l≠m:=λk=>by subst k;exact e rfl
def f03(a b:Aut)(R:Bool)(hR:R=true↔a=b):PC prog 25 [encA a,encA b] (λr=>r= .bool R):=by
 refine pcB func25 results25 ntmps25 ?_;simp only[Qe];simp only[encA];refine Wf 0 1 rfl rfl (λza=>?_);rw[yL]at za;refine Wf 0 2 rfl rfl (λzb=>?_);rw[yL]at zb;refine Wf 1 1 rfl rfl (λzc=>?_);rw[yL]at zc;refine Wf 1 2 rfl rfl (λzd=>?_);rw[yL]at zd;have z7:a≠b->R=false:=λh=>by
  cases R with
  |false=>rfl
  |true=>exact absurd (hR.1 rfl) h
 repeat(refine s_ ?_;simp)
 refine Qa rfl (λh=>?_) (λh=>?_)
 ·rw[z7 (λe=>by subst e;simp at h)];repeat(refine s_ ?_;simp)
 have h1:a.types=b.types:=by simp at h;exact h.1.1
 have h2:a.fin.length=b.fin.length:=by simp at h;omega
 have h3:a.mv.length=b.mv.length:=by simp at h;omega
 repeat(refine s_ ?_;simp)
 refine Qu a.fin.length (λj=>a.fin.take j=b.fin.take j) (λj=>[(2,.vptr 0 0),(3,.vptr 1 0),(5,.i j)]) (λ_=>[.vars (Ql a),.vars (Ql b)]) rfl (by simp) (by simp) (by simp) (by simp) (by simp) ?_;intro j hj hI ih;repeat(refine s_ ?_;simp)
 refine Qa rfl (λze=>?_) (λzl=>?_)
 ·have z1:j<a.fin.length:=by simpa using ze
  have z6:j<b.fin.length:=by omega
  have hw:=wz j (by omega);by_cases he:a.fin[j]=b.fin[j]
  ·have zf:(a.fin[j]==b.fin[j])=true:=by simpa using he
   repeat(refine s_ ?_;simp)
   refine Qn tOk mixed [] (.val 0 (.val 1 (.val 2 (.val 3 (.val 4 (.val 5 (.val 6 (.val 7 (.val 8 (.val 9 (.val 10 (.done)))))))))))) rfl (by kernel_rfl) ?_;simp[z1,z6,zf];refine Qa rfl (λh=>by simp[he]at h) (λ_=>?_);repeat(refine s_ ?_;simp[hw])
   refine Qs _ (ih z1 (Fm z1 z6 hI he)) rfl (by simp) ?_ (by simp) (by simp);simp
  have zf:(a.fin[j]==b.fin[j])=false:=by simpa using he
  rw[z7 (λe=>Nd z1 z6 he (by rw[e]))];repeat(refine s_ ?_;simp)
  refine Qn tOk mixed [] (.val 0 (.val 1 (.val 2 (.val 3 (.val 4 (.val 5 (.val 6 (.val 7 (.val 8 (.val 9 (.val 10 (.done)))))))))))) rfl (by kernel_rfl) ?_;simp[z1,z6,zf];refine Qa rfl (λ_=>?_) (λh=>by simp[he]at h);repeat(refine s_ ?_;simp)
 have zj:a.fin=b.fin:=by
  have zg:j=a.fin.length:=by simp at zl;omega
  rw[zg,yR,h2,yR]at hI;exact hI
 clear hI ih;repeat(refine s_ ?_;simp)
 refine Qu a.mv.length (λj=>a.mv.take j=b.mv.take j) (λj=>[(2,.vptr 0 0),(3,.vptr 1 0),(6,.i j)]) (λ_=>[.vars (Ql a),.vars (Ql b)]) rfl (by simp) (by simp) (by simp) (by simp) (by simp) ?_;intro j2 zp zh zm;repeat(refine s_ ?_;simp)
 refine Qa rfl (λze=>?_) (λzi=>?_)
 ·have z1:j2<a.mv.length:=by simpa using ze
  have z6:j2<b.mv.length:=by omega
  have hw:=wz j2 (by omega);have z8:=λh=>Nd (l:=a.mv) (m:=b.mv) z1 z6 h;have heq:=λh=>zm z1 (Fm z1 z6 zh h);repeat(refine s_ ?_;simp)
  obtain⟨m,hm⟩:∃m,a.mv[j2]=m:=⟨_,rfl⟩
  obtain⟨n,hn⟩:∃n,b.mv[j2]=n:=⟨_,rfl⟩
  rw[hm,hn]at z8 heq;refine Kb tOk mixed [12,13] (.val 0 (.val 1 (.val 2 (.val 3 (.val 4 (.val 5 (.val 7 (.three 6 (.val 8 (.three 9 (.two 10 (.one 11 (.one 12 (.one 13 (.done)))) 11 (.one 10 (.one 12 (.one 13 (.done))))) 10 (.two 9 (.one 11 (.one 12 (.one 13 (.done)))) 11 (.two 9 (.one 12 (.one 13 (.done))) 12 (.val 9 (.one 13 (.done))))) 11 (.two 9 (.one 10 (.one 12 (.one 13 (.done)))) 10 (.two 9 (.one 12 (.one 13 (.done))) 12 (.val 9 (.one 13 (.done))))))) 10 (.two 6 (.val 8 (.two 9 (.one 11 (.one 12 (.one 13 (.done)))) 11 (.two 9 (.one 12 (.one 13 (.done))) 12 (.val 9 (.one 13 (.done)))))) 11 (.two 6 (.val 8 (.two 9 (.one 12 (.one 13 (.done))) 12 (.val 9 (.one 13 (.done))))) 12 (.val 6 (.val 8 (.val 9 (.one 13 (.done))))))) 11 (.two 6 (.val 8 (.two 9 (.one 10 (.one 12 (.one 13 (.done)))) 10 (.two 9 (.one 12 (.one 13 (.done))) 12 (.val 9 (.one 13 (.done)))))) 10 (.two 6 (.val 8 (.two 9 (.one 12 (.one 13 (.done))) 12 (.val 9 (.one 13 (.done))))) 12 (.val 6 (.val 8 (.val 9 (.one 13 (.done))))))))))))))) (⟨[(2,.vptr 0 0),(3,.vptr 1 0),(6,.i j2),(7,.vptr 2 0),(8,.vptr 3 0)],[.vars (Ql a),.vars (Ql b),.vars [.i m.src,.i m.dst,.list (m.on.map encL)],.vars [.i n.src,.i n.dst,.list (n.on.map encL)]]⟩) rfl (by kernel_rfl) ?_ ?_;simp[z1,z6,hm,hn]
  ·repeat' apply And.intro
   all_goals first|(refine D8 ?_;simp;done)|exact Ha [0,1,3,2] (by simp) (by decide) (by simp) rfl (by simp) (by simp) (by simp)
  by_cases e1:m.src=n.src
  rotate_left
  ·have g1:(m.src != n.src)=true:=by simpa using e1
   have f1:(m.src==n.src)=false:=by simpa using e1
   rw[z7 (λe=>z8 (λk=>e1 (by rw[k])) (by rw[e]))];repeat(refine s_ ?_;simp[f1,g1])
   refine Wg rfl rfl ?_;simp;repeat(refine s_ ?_;simp)
   refine Qa rfl (λ_=>?_) (λh=>by simp at h);repeat(refine s_ ?_;simp)
  have g1:(m.src != n.src)=false:=by simpa using e1
  have f1:(m.src==n.src)=true:=by simpa using e1
  by_cases e2:m.dst=n.dst
  rotate_left
  ·have g2:(m.dst != n.dst)=true:=by simpa using e2
   have f2:(m.dst==n.dst)=false:=by simpa using e2
   rw[z7 (λe=>z8 (λk=>e2 (by rw[k])) (by rw[e]))];repeat(refine s_ ?_;simp[f1,f2,g1,g2])
   refine Wg rfl rfl ?_;simp;repeat(refine s_ ?_;simp)
   refine Qa rfl (λ_=>?_) (λh=>by simp at h);repeat(refine s_ ?_;simp)
  have g2:(m.dst != n.dst)=false:=by simpa using e2
  have f2:(m.dst==n.dst)=true:=by simpa using e2
  repeat(refine s_ ?_;simp[f1,f2,g1,g2])
  refine pcL (Bz m.on n.on) ?_;simp;by_cases e3:m.on=n.on
  ·have zn:m=n:=by cases m;cases n;simp only at e1 e2 e3;rw[e1,e2,e3]
   rw[decide_eq_true e3];repeat(refine s_ ?_;simp)
   refine Qa rfl (λh=>by simp at h) (λ_=>?_);repeat(refine s_ ?_;simp[hw])
   refine Qs _ (heq zn) rfl (by simp) ?_ (by simp) (by simp);simp
  rw[decide_eq_false e3,z7 (λe=>z8 (λk=>e3 (by rw[k])) (by rw[e]))];repeat(refine s_ ?_;simp)
  refine Qa rfl (λ_=>?_) (λh=>by simp at h);repeat(refine s_ ?_;simp)
 have zk:a.mv=b.mv:=by
  have zg:j2=a.mv.length:=by simp at zi;omega
  rw[zg,yR,h3,yR]at zh;exact zh
 have zo:a=b:=by cases a;cases b;simp only at h1 zj zk;rw[h1,zj,zk]
 rw[hR.2 zo];repeat(refine s_ ?_;simp)
end
section
open Go.Maps Go.RowKit
attribute [local irreducible] Yg Kz Y0 g0s El R8 j2p Ed
end
section
open Go.Maps Go.RowKit
def j2j(a b a' b':Int):eqA T 9 52 (.agg [.int .i64 a,.int .i64 b]) (.agg [.int .i64 a',.int .i64 b'])=some (a==a' && b==b'):=by simp[eqA,Y2,Dw,TI.agg]
def x2f{a b:List Sy}{j:Nat}(h1:j<a.length)(h2:j<b.length)(h:a.take j=b.take j)(e:a[j]=b[j]):a.take (j+1)=b.take (j+1):=by rw[zY h1,zY h2,h,e]
def u0y(a b:List Sy):PC prog 26 [LSy a,LSy b] (λr=>r= .bool (decide (a=b))):=by
 refine pcB func26 results26 ntmps26 ?_;simp only[Qe];refine Tw 0 rfl (λhlen=>?_);rw[yL]at hlen;repeat(refine s_ ?_;simp)
 refine Qa rfl (λh=>?_) (λh1=>?_)
 ·repeat(refine s_ ?_;simp)
  rintro rfl;simp at h
 have hl:a.length=b.length:=by simp at h1;omega
 repeat(refine s_ ?_;simp)
 refine Qu a.length (λj=>a.take j=b.take j) (λj=>[(0,LSy a),(1,LSy b),(12,.i a.length),(13,.i j)]) (λ_=>[]) rfl (by simp) (by simp) (by simp) (by simp) (by simp) ?_;intro j hj hI ih;repeat(refine s_ ?_;simp)
 refine Qa rfl (λz8=>?_) (λza=>?_)
 ·have z1:j<a.length:=by simpa using z8
  have z6:j<b.length:=by omega
  repeat(refine s_ ?_;simp)
  refine Qn tOk mixed [] (.val 0 (.val 1 (.val 2 (.val 3 (.val 4 (.val 5 (.val 6 (.val 7 (.val 8 (.done)))))))))) rfl (by kernel_rfl) ?_;simp[z1,z6,j2j];refine Qa rfl (λh=>?_) (λh=>?_)
  ·repeat(refine s_ ?_;simp)
   rintro rfl;simp at h
  repeat(refine s_ ?_;simp)
  have he:a[j]=b[j]:=by
   have h2:a[j].ty=b[j].ty/\a[j].num=b[j].num:=by simpa using h
   cases ha:a[j];cases hb:b[j];rw[ha,hb]at h2;simp only at h2;rw[h2.1,h2.2]
  refine Qs _ (ih z1 (x2f z1 z6 hI he)) rfl (by simp) ?_ (by simp) (by simp);simp;exact wrap_i64 _ (by omega) (by omega)
 have z7:j=a.length:=by simp at za;omega
 subst z7;repeat(refine s_ ?_;simp)
 rw[zZ (zW _),zZ (by omega)]at hI;exact hI
end
section
open Go.Maps Go.RowKit
end
section
open Go.Maps Go.RowKit
attribute [simp] y2h d2r d2p
def z06:(prog).underlying 66=some (.array 2 3):=by kernel_rfl
def w27:(prog).underlying 3=some (.int .i64):=by kernel_rfl
def v0b:(prog).cellsOf 66=2:=by kernel_rfl
def x1w:(prog).cellsOf 3=1:=by kernel_rfl
def q2s:(prog).keyType 66=true:=by kernel_rfl
def w2z:laidOutB prog=true:=by kernel_rfl
def q22:(prog).keyTypeAt 3 66=true:=by kernel_rfl
def q2h:66<(prog).types.size:=of_decide_eq_true (by kernel_rfl)
def Jg:Keyed prog 66:=Keyed.of_law (deep_law_laid w2z (m:=3) (by decide) q2h q22 (by rw[z06]))
def okQ(s:Int×Int):Prop:=(-1<=s.1/\s.1<=1000000)/\(-1<=s.2/\s.2<=1000000)
def q27{s t:Int×Int}(h:pqr s=pqr t):s=t:=by unfold pqr at h;simp at h;exact un h.1 h.2
def x25{z:Int}(h: -1<=z/\z<=1000000):(Lit.int .i64 z).wf=true:=by
 have h1:IntKind.i64.min= -9223372036854775808:=by decide
 have h2:IntKind.i64.max=9223372036854775807:=by decide
 simp only[Lit.wf,h1,h2,Bool.and_eq_true,decide_eq_true_eq];omega
def f0j(d:Nat){z:Int}(h: -1<=z/\z<=1000000):(prog).keyLits (d+1) 3 [.int .i64 z]=some [.int .i64 z]:=by unfold Program.keyLits;rw[w27];simp[x25 h]
def k2u(d:Nat){s:Int×Int}(h:okQ s):(prog).keyLits (d+2) 66 [.int .i64 s.1,.int .i64 s.2]=some [.int .i64 s.1,.int .i64 s.2]:=by unfold Program.keyLits;rw[z06];simp only[v0b,x1w,List.length_cons,List.length_nil,if_true];have h1:=f0j d h.1;have h2:=f0j d h.2;simp[List.range_succ,h1,h2]
def Pf{s:Int×Int}(h:okQ s):isKey prog 66 (pqr s):=by
 refine⟨.agg #[.int .i64 s.1,.int .i64 s.2],.string (keyBytes [.int .i64 s.1,.int .i64 s.2]),rfl,?_⟩;obtain⟨d,hd⟩:∃d,(prog).types.size+1=d+2:=⟨(prog).types.size - 1,by have:=q2h;omega⟩
 unfold keyOf;rw[z06];simp only;have hf:Value.formed prog 66 (.agg #[.int .i64 s.1,.int .i64 s.2])=true:=by unfold Value.formed;rw[z06,v0b];rfl
 rw[q2s,hf,hd];have:(Value.agg #[.int .i64 s.1,.int .i64 s.2]).cells.toList=[.int .i64 s.1,.int .i64 s.2]:=rfl;rw[this,k2u d h];rfl
def kvQ(l:List (Int×Int)):List (AV×AV):=l.map λs=>(pqr s,.bool true)
def stQ(l:List (Int×Int)):AObj:= .mp (kvQ l)
def Cs{l:List (Int×Int)}(h:∀s∈l,okQ s):∀p∈kvQ l,isKey prog 66 p.1:=λp hp=>by obtain⟨e,he,rfl⟩:=zU.1 hp;exact Pf (h e he)
def C6{l:List (Int×Int)}{j:Nat}{p:AV×AV}{s:Int×Int}(hp:(kvQ l)[j]?=some p)(he:p.1=pqr s):s∈l/\p.2= .bool true:=by unfold kvQ at hp;rw[z_]at hp;obtain⟨m,hm,rfl⟩:=zX.1 hp;have z1:m=s:=q27 he;exact⟨by rw[<-z1];exact List.mem_of_getElem? hm,rfl⟩
section
variable {nt k:Nat} {S:AS} {ops:Array Oper} {o:Oper} {R:AS->Prop}
def q04 {wr:Bool} (hw:Qt ops S o=some true) (hd:Wm nt o=true) {x ix:Operand} (ho:o.op= .lookup 174 x ix false) {id:Nat} (hx:rho S.sl x=some (.mref id)) {s:Int×Int} (z1:rho S.sl ix=some (.agg [.i s.1,.i s.2]))
  {l:List (Int×Int)} (z6:S.hp[id]?=some (stQ l)) (hl:∀m∈l,okQ m) (hn:okQ s) (hR:R (S.putD o.dst (.bool (decide (s∈l))))):We prog nt k wr ops o S R:=by
 refine F2 tOk hw hd ho y2h rfl T4 Jg hx z1 z6 (Pf hn) (Cs hl) (z:= .bool false) rfl (λj p hp he=>?_) (λz7=>?_)
 ·obtain⟨h1,h2⟩:=C6 hp he;rw[decide_eq_true h1]at hR;rw[h2];exact hR
 rw[decide_eq_false (λh=>z7 (pqr s,.bool true) (zU.2 ⟨s,h,rfl⟩) rfl)]at hR;exact hR
def F1 {wr:Bool} (hw:Qt ops S o=some true) (hd:Wm nt o=true) {x ix:Operand} (ho:o.op= .lookup 174 x ix false) {id:Nat} (hx:rho S.sl x=some (.mref id)) {s:Int×Int} (z1:rho S.sl ix=some (.agg [.i s.1,.i s.2]))
  {l:List (Int×Int)} (z6:S.hp[id]?=some (.fm (kvQ l))) (hl:∀m∈l,okQ m) (hn:okQ s) (hR:R (S.putD o.dst (.bool (decide (s∈l))))):We prog nt k wr ops o S R:=by
 refine Cy tOk hw hd ho y2h rfl T4 Jg hx z1 z6 (Pf hn) (Cs hl) (z:= .bool false) rfl (λj p hp he=>?_) (λz7=>?_)
 ·obtain⟨h1,h2⟩:=C6 hp he;rw[decide_eq_true h1]at hR;rw[h2];exact hR
 rw[decide_eq_false (λh=>z7 (pqr s,.bool true) (zU.2 ⟨s,h,rfl⟩) rfl)]at hR;exact hR
def Zo (hw:Qt ops S o=some true) (hd:Wm nt o=true) {x ix y:Operand} (ho:o.op= .mapUpdate 174 x ix y) {id:Nat} (hx:rho S.sl x=some (.mref id)) {s:Int×Int} (z1:rho S.sl ix=some (.agg [.i s.1,.i s.2])) (hy:rho S.sl y=some (.bool true))
  {l:List (Int×Int)} (z6:S.hp[id]?=some (stQ l)) (hl:∀m∈l,okQ m) (hn:okQ s) (z7:s∉l) (hR:R (({ S with hp:=S.hp.set id (stQ (l++[s])) }:AS).putD o.dst (.tup []))):We prog nt k true ops o S R:=by
 refine Es tOk hw hd ho y2h rfl Jg hx z1 hy (by simp[AV.pure]) z6 (Pf hn) (Cs hl) (λj p hp he=>?_) (λz8=>?_)
 ·exact absurd (C6 hp he).1 z7
 have:kvQ l++[(pqr s,.bool true)]=kvQ (l++[s]):=by simp[kvQ]
 unfold stQ at hR;rw[<-this]at hR;exact hR
def w0f (hw:Qt ops S o=some true) (hd:Wm nt o=true) {x ix y:Operand} (ho:o.op= .mapUpdate 174 x ix y) {id:Nat} (hx:rho S.sl x=some (.mref id)) {s:Int×Int} (z1:rho S.sl ix=some (.agg [.i s.1,.i s.2])) (hy:rho S.sl y=some (.bool true))
  {l:List (Int×Int)} (z6:S.hp[id]?=some (stQ l)) (hl:∀m∈l,okQ m) (hn:okQ s) (hR:R (({ S with hp:=S.hp.set id (stQ (adQ l s)) }:AS).putD o.dst (.tup []))):We prog nt k true ops o S R:=by
 by_cases hm:s∈l
 ·rw[k26 hm]at hR;refine Es tOk hw hd ho y2h rfl Jg hx z1 hy (by simp[AV.pure]) z6 (Pf hn) (Cs hl) (λj p hp he=>?_) (λz7=>?_)
  ·obtain⟨h1,h2⟩:=C6 hp he;have:(kvQ l).set j (pqr s,.bool true)=kvQ l:=by
    refine xQ λi=>?_;by_cases hi:i=j
    ·subst hi;rw[zS (zE.1 hp).1,hp]
     congr 1
     exact un he.symm h2.symm
    rw[zH (Ne.symm hi)]
   unfold stQ at hR;rw[<-this]at hR;exact hR
  exact absurd rfl (z7 (pqr s,.bool true) (zU.2 ⟨s,hm,rfl⟩))
 rw[w2i hm]at hR;exact Zo hw hd ho hx z1 hy z6 hl hn hm hR
def u0t (hw:Qt ops S o=some true) (hd:Wm nt o=true) {x ix y:Operand} (ho:o.op= .insert 174 x ix y) {id:Nat} (hx:rho S.sl x=some (.mref id)) {s:Int×Int} (z1:rho S.sl ix=some (.agg [.i s.1,.i s.2])) (hy:rho S.sl y=some (.bool true))
  (z6:S.hp[id]?=some (.mp [])) (hn:okQ s) (hR:R (({ S with hp:=S.hp.set id (stQ [s]) }:AS).putD o.dst (.tup []))):We prog nt k true ops o S R:=by
 refine Of tOk hw hd ho y2h rfl Jg hx z1 hy (by simp[AV.pure]) z6 (Pf hn) (λp hp=>by cases hp) (λj p hp he=>by cases hp) (λz7=>?_);exact hR
end
def d1u(xs ys:List Sy)(i:Nat):Prop:=ys.length=xs.length/\∀p,p<xs.length->ys[p]? =if p<i\/xs.length - i<=p then xs[xs.length - 1 - p]? else xs[p]?
def d1u.done{xs ys:List Sy}{i:Nat}(h:d1u xs ys i)(hi:xs.length<=2 * i+1):ys=xs.reverse:=by
 refine xQ λp=>?_;by_cases hp:p<xs.length
 ·rw[h.2 p hp,List.getElem?_reverse hp];split
  ·rfl
  rename_i hn
  congr 1;omega
 rw[xF (by rw[h.1];omega),xF (by simp;omega)]
def d1u.start(xs:List Sy):d1u xs xs 0:=⟨rfl,λp hp=>by rw[if_neg (by omega)]⟩
def d1u.step{xs ys:List Sy}{i:Nat}(h:d1u xs ys i)(hi:2 * i+1<xs.length){x y:Sy}(hx:ys[i]?=some x)(hy:ys[xs.length - 1 - i]?=some y):d1u xs ((ys.set i y).set (xs.length - 1 - i) x) (i+1):=by
 refine⟨by simp[h.1],λp hp=>?_⟩;have h1:=h.2 i (by omega);rw[if_neg (by omega),hx]at h1;have h2:=h.2 (xs.length - 1 - i) (by omega);rw[if_neg (by omega),hy]at h2;by_cases e1:p=xs.length - 1 - i
 ·subst e1;rw[zS (by simp[h.1];omega),if_pos (by omega),show xs.length - 1 - (xs.length - 1 - i)=i by omega];exact h1
 rw[zH (Ne.symm e1)];by_cases e2:p=i
 ·subst e2;rw[zS (by rw[h.1];omega),if_pos (by omega)];exact h2
 rw[zH (Ne.symm e2),h.2 p hp];by_cases e3:p<i\/xs.length - i<=p
 ·rw[if_pos e3,if_pos (by omega)]
 rw[if_neg e3,if_neg (by omega)]
def Bi(H:List AObj)(p:Nat)(xs:List Sy)(hp:H[p]?=some (.arr 52 2 (xs.map encSy)))(hl:xs.length<=1000000):FC prog 189 [.sl p 2 0 xs.length] H (λr H'=>r= .tup []/\H'=H.set p (.arr 52 2 (xs.reverse.map encSy))):=by
 refine fcB func189 results189 ntmps189 ?_;simp only[Qe];have zc:=Qf hp;have ze:IntKind.i64.wrap ((xs.length:Int) - 1)=(xs.length:Int) - 1:=wrap_i64 _ (by omega) (by omega);have z6:H.set p (.arr 52 2 (xs.map encSy))=H:=by
  refine xQ λi=>?_;by_cases e:i=p
  ·subst e;rw[zS zc,hp]
  rw[zH (Ne.symm e)]
 repeat(refine s_ ?_;simp[ze])
 refine Qi (Qc (sl':=[(0,.sl p 2 0 xs.length),(2,.i (0:Nat)),(3,.i ((xs.length:Int) - 1))]) ?_ (by simp));refine Qj (P:=prog) (F:=λ(u:Nat×Int×List Sy×List AObj)=>⟨[(0,.sl p 2 0 xs.length),(2,.i u.1),(3,.i u.2.1)],u.2.2.2⟩)
  (λu=>u.1<=xs.length/\u.2.1=(xs.length:Int) - 1 - u.1/\d1u xs u.2.2.1 u.1/\u.2.2.2=H.set p (.arr 52 2 (u.2.2.1.map encSy))) (λu=>xs.length - u.1) ?_ (0,(xs.length:Int) - 1,xs,H) ⟨xP _,by simp,d1u.start xs,z6.symm⟩
 rintro⟨i,m,ys,G⟩ ⟨hi,hm,hr,hG⟩ ih;simp only at hi hm hr hG ih |-;repeat(refine s_ ?_;simp)
 refine Qa rfl (λzf=>?_) (λzg=>?_)
 ·have zh:(i:Int)<m:=by simpa using zf
  obtain⟨k,rfl⟩:∃k:Nat,m=k:=⟨m.toNat,by omega⟩
  have hk:k=xs.length - 1 - i:=by omega
  have zi:i<k:=by omega
  have zj:k<xs.length:=by omega
  have z7:i<xs.length:=by omega
  have zk:=wz i (by omega);have zl:IntKind.i64.wrap ((k:Int) - 1)=(k:Int) - 1:=wrap_i64 _ (by omega) (by omega);have zr:=hr.1;obtain⟨x,hx⟩:∃x,ys[i]?=some x:=⟨_,zP (by omega)⟩
  obtain⟨y,hy⟩:∃y,ys[k]?=some y:=⟨_,zP (by omega)⟩
  have hst:=hr.step (by omega) hx (by rw[<-hk];exact hy);rw[<-hk]at hst;have hg:G[p]?=some (.arr 52 2 (ys.map encSy)):=by rw[hG,zS zc]
  have zd:(ys.map encSy)[i]?=some (.agg [.i x.ty,.i x.num]):=by rw[z_,hx];rfl
  have z8:(ys.map encSy)[k]?=some (.agg [.i y.ty,.i y.num]):=by rw[z_,hy];rfl
  have zm:∀hh,(ys.map encSy)[i]'hh= .agg [.i x.ty,.i x.num]:=λhh=>(yI hh).2 zd;have zn:∀hh,(ys.map encSy)[k]'hh= .agg [.i y.ty,.i y.num]:=λhh=>(yI hh).2 z8;have zo:i<ys.length:=by omega
  have za:k<ys.length:=by omega
  have zp:∀z,(G.set p z)[p]?=some z:=λz=>Qg hg z;have z1:∀z,((ys.map encSy).set i z)[k]?=some (.agg [.i y.ty,.i y.num]):=λz=>by rw[zH (by omega)];exact z8
  have zb:∀z hh,((ys.map encSy).set i z)[k]'hh= .agg [.i y.ty,.i y.num]:=λz hh=>(yI hh).2 (z1 z);repeat(refine s_ ?_;simp)
  refine Qn tOk mixed [13,15] (.val 0 (.val 1 (.val 2 (.val 3 (.val 4 (.val 5 (.val 6 (.val 7 (.val 8 (.val 9 (.val 10 (.val 11 (.val 12 (.one 13 (.val 14 (.one 15 (.done))))))))))))))))) rfl (by kernel_rfl) ?_;simp[hg,zd,z8,zm,zn,zo,za,zp,z1,zi,zj,z7,zb];repeat(refine s_ ?_;simp[zk,zl])
  refine Qc (sl':=[(0,.sl p 2 0 xs.length),(2,.i (i+1:Nat)),(3,.i ((k:Int) - 1))]) ?_ (by simp);exact ih (i+1,(k:Int) - 1,(ys.set i y).set k x,_) ⟨by simp only;omega,by simp only;omega,hst,by rw[hG,List.set_set];simp[List.map_set,encSy]⟩ (by simp only;omega)
 have zq:m<=(i:Int):=by simpa using zg
 have hd:=hr.done (by omega);subst hd;repeat(refine s_ ?_;simp)
 rw[hG,List.map_reverse]
def D6(v:Vst):AV:= .agg [.i v.s.1,.i v.s.2,.i v.fr,.i v.on.ty,.i v.on.num,.bool v.fst]
def k10(V:List Vst)(L:List ((Int×Int)×List Sy))(hV:VOk V L)(i:Nat)(e:(Int×Int)×List Sy)(he:L[i]?=some e)(hl:V.length<=1000000):PC prog 128 [.list (V.map D6),.i i] (λr=>r=LSy e.2):=by
 refine pcB func128 results128 ntmps128 ?_;simp only[Qe];have ze:i<L.length:=(zE.1 he).1;have zf:=hV.len;repeat(refine s_ ?_;simp)
 refine Q5 5 52 2 rfl ?_;simp;have hst:=SL.start [] 52 2;refine Qi (Qc (sl':=[(0,.list (V.map D6)),(1,.i i),(5,.sl 0 2 0 ([]:List Sy).length)]) ?_ (by simp));refine Qj (P:=prog) (F:=λ(u:Nat×Nat×List Sy×List AObj)=>⟨[(0,.list (V.map D6)),(1,.i u.1),(5,.sl u.2.1 2 0 u.2.2.1.length)],u.2.2.2⟩)
  (λu=>(∃d,L[u.1]?=some d/\e.2=d.2++u.2.2.1.reverse)/\u.2.2.1.length+u.1<=i/\u.2.2.2[u.2.1]?=some (.arr 52 2 (u.2.2.1.map encSy))) (λu=>u.1) ?_ (i,0,[],_) ⟨⟨e,he,by simp⟩,by simp,by simp⟩
 rintro⟨k,q,out,G⟩ ⟨⟨d,hd,z1⟩,zc,gq⟩ ih;simp only at hd z1 zc gq ih |-;have z7:k<V.length:=by have:=(zE.1 hd).1;omega
 obtain⟨v,hv⟩:∃v,V[k]?=some v:=⟨_,zP z7⟩
 have za:=hV.way k v d hv hd;have z6:(V.map D6)[k]?=some (D6 v):=by rw[z_,hv];rfl
 have z8:∀hh,(V.map D6)[k]'hh=D6 v:=λhh=>(yI hh).2 z6;simp only[D6]at z6 z8;repeat(refine s_ ?_;simp[z6,z8,z7])
 rcases za with⟨h1,h2⟩|⟨h1,h2,d',h3,h4⟩
 ·rw[h2,List.nil_append]at z1;rw[h1];refine Qa rfl (λh=>by simp at h) (λ_=>?_);repeat(refine s_ ?_;simp)
  refine Q0 rfl rfl (Bi G q out gq (by omega)) rfl ?_;rintro _ _ ⟨rfl,rfl⟩;simp;have zd:∀z,(G.set q z)[q]?=some z:=λz=>Qg gq z;have zg:out.length=e.2.length:=by rw[z1];simp
  rw[z1];repeat(refine s_ ?_;simp[zd])
  rw[zZ (by simp)]
 rw[h1];refine Qa rfl (λ_=>?_) (λh=>by simp at h);have zb:(out.map encSy).length=out.length:=by simp
 repeat(refine s_ ?_;simp[z6,z8,z7])
 refine apS T26 T52 ?_;simp[Qb gq,Qh gq,zb];refine⟨by simp[W1,Qb gq,Qh gq,zb]<;>omega,?_⟩;repeat(refine s_ ?_;simp[z6,z8,z7])
 refine Qc (sl':=[(0,.list (V.map D6)),(1,.i v.fr),(5,.sl (G.length+1) 2 0 (out++[v.on]).length)]) ?_ (by simp);refine ih (v.fr,G.length+1,out++[v.on],_) ⟨⟨d',h3,by rw[z1,h4];simp⟩,by simp;omega,?_⟩ h2;simp only;rw[zO (by simp)];simp[encSy]
end
section
open Go.Maps Go.RowKit
def c16(x y:Int):(if x<y then y else x)=max x y:=by omega
def v2g:Option Int->AV
 |some n=> .tup [.i n,.bool true]
 |none=> .tup [.i 0,.bool false]
def k0m(l m:List Iv)(hl:l.length<=1000000000)(hm:m.length<=1000000000):PC prog 183 [LIv l,LIv m] (λr=>r=v2g (K3 l m)):=by
 refine pcB func183 results183 ntmps183 ?_;simp only[Qe];obtain⟨R,hR⟩:∃R,K3 l m=R:=⟨_,rfl⟩
 rw[hR];repeat(refine s_ ?_;simp)
 refine Qi (Qc (sl':=[(0,LIv l),(1,LIv m),(6,.i (0:Nat)),(7,.i (0:Nat))]) ?_ (by simp));refine Qj (F:=λ(u:Nat×Nat)=>⟨[(0,LIv l),(1,LIv m),(6,.i u.1),(7,.i u.2)],[]⟩)
  (λu=>u.1<=l.length/\u.2<=m.length/\K3 (l.drop u.1) (m.drop u.2)=R) (λu=>(l.length - u.1)+(m.length - u.2)) ?_ (0,0) ⟨xP _,xP _,by simpa using hR⟩
 rintro⟨i,k⟩ ⟨hi,hk,hI⟩ ih;simp only at hi hk hI ih |-;by_cases h1:i<l.length
 ·by_cases h2:k<m.length
  ·have hw:=wz i (by omega);have z1:=wz k (by omega);rw[wQ h1,wQ h2,d0y]at hI;have e1:l[i]?=some l[i]:=zP h1;have e2:m[k]?=some m[k]:=zP h2;repeat(refine s_ ?_;simp[h1,h2])
   refine Qa rfl (λ_=>?_) (λh=>by simp[h1,h2]at h);repeat(refine s_ ?_;simp)
   refine Qn tOk mixed [] (.val 0 (.val 1 (.val 2 (.val 3 (.val 4 (.val 5 (.val 6 (.val 7 (.val 8 (.val 9 (.val 10 (.val 11 (.done))))))))))))) rfl (by kernel_rfl) ?_;simp[h1,h2];repeat(refine s_ ?_;simp)
   refine Qn tOk mixed [] (.val 0 (.val 1 (.val 2 (.val 3 (.val 4 (.val 5 (.val 6 (.val 7 (.val 8 (.val 9 (.val 10 (.val 11 (.val 12 (.done)))))))))))))) rfl (by kernel_rfl) ?_;simp[h1,h2];refine Qa rfl (λh=>?_) (λh=>?_)
   ·have hle:max l[i].lo m[k].lo<=min l[i].hi m[k].hi:=by simp at h;omega
    rw[if_pos hle]at hI;rw[<-hI];repeat(refine s_ ?_;simp)
    rw[c16];rfl
   have hle:¬max l[i].lo m[k].lo<=min l[i].hi m[k].hi:=by simp at h;omega
   rw[if_neg hle]at hI;repeat(refine s_ ?_;simp)
   refine Qn tOk mixed [] (.val 0 (.val 1 (.val 2 (.val 3 (.val 4 (.val 5 (.val 6 (.val 7 (.val 8 (.val 9 (.val 10 (.done)))))))))))) rfl (by kernel_rfl) ?_;simp[h1,h2];refine Qa rfl (λh=>?_) (λh=>?_)
   ·rw[if_pos (by simpa using h)]at hI;repeat(refine s_ ?_;simp[hw])
    refine Qc (sl':=[(0,LIv l),(1,LIv m),(6,.i (i+1:Nat)),(7,.i k)]) ?_ (by simp);exact ih (i+1,k) ⟨by omega,hk,by rw[wQ h2];exact hI⟩ (by simp;omega)
   rw[if_neg (by simpa using h)]at hI;repeat(refine s_ ?_;simp[z1])
   refine Qc (sl':=[(0,LIv l),(1,LIv m),(6,.i i),(7,.i (k+1:Nat))]) ?_ (by simp);exact ih (i,k+1) ⟨hi,by omega,by rw[wQ h1];exact hI⟩ (by simp;omega)
  have h3:k=m.length:=by omega
  subst h3;repeat(refine s_ ?_;simp[h1])
  refine Qa rfl (λh=>by simp at h) (λ_=>?_);repeat(refine s_ ?_;simp)
  rw[x_,wQ h1,Mk]at hI;rw[<-hI];rfl
 have h3:i=l.length:=by omega
 subst h3;repeat(refine s_ ?_;simp)
 refine Qa rfl (λh=>by simp at h) (λ_=>?_);repeat(refine s_ ?_;simp)
 rw[x_,v0f]at hI;rw[<-hI];rfl
def He:Option Sy->AV
 |some x=> .tup [encSy x,.bool true]
 |none=> .tup [encSy ⟨0,0⟩,.bool false]
def f1z(p q:Prd)(f t:Nat):lqB p q (f+1) t=match K3 (p.getD t []) (q.getD t [])with|some n=>some ⟨t,n⟩|none=>lqB p q f (t+1):=rfl
attribute [local irreducible] lqB E4
def A4(T:Nat)(p q:Prd)(hp:PWf T p)(hq:PWf T q)(z7:∀s∈p,s.length<=1000000000)(z8:∀s∈q,s.length<=1000000000)(hT:T<=1000):PC prog 120 [encP p,encP q] (λr=>r=He (E4 p q)):=by
 refine pcB func120 results120 ntmps120 ?_;simp only[Qe];simp only[encP];have zd:=hp.1;have ze:=hq.1;obtain⟨R,hR⟩:∃R,E4 p q=R:=⟨_,rfl⟩
 rw[hR];rw[<-f2k hp hq]at hR;repeat(refine s_ ?_;simp)
 refine Qu p.length (λi=>lqB p q (T - i) i=R) (λi=>[(2,.vptr 0 0),(3,.vptr 1 0),(4,.vptr 2 0),(11,.i p.length),(12,.i i)]) (λ_=>[.vars [.list (p.map encL)],.vars [.list (q.map encL)],.vars [.i 0,.i 0]]) rfl (by simp) (by simp) (by simp) (by simp) (by simpa using hR) ?_;intro i hi hI ih;repeat(refine s_ ?_;simp)
 refine Qa rfl (λza=>?_) (λzb=>?_)
 ·have z1:i<p.length:=by simpa using za
  have z6:i<q.length:=by omega
  have hw:=wz i (by omega);rw[show T - i=(T - (i+1))+1 by omega,f1z,W4 z1,W4 z6]at hI;repeat(refine s_ ?_;simp)
  refine Qn tOk mixed [] (.val 0 (.val 1 (.val 2 (.val 3 (.val 4 (.val 5 (.val 6 (.val 7 (.val 8 (.val 9 (.one 10 (.val 11 (.val 12 (.val 13 (.val 14 (.val 15 (.done))))))))))))))))) rfl (by kernel_rfl) ?_;simp[z1,z6];refine pcL (k0m p[i] q[i] (z7 _ (zT z1)) (z8 _ (zT z6))) ?_;simp;cases hc:K3 p[i] q[i]with
  |some n=>
   rw[hc]at hI;simp[v2g];repeat(refine s_ ?_;simp)
   refine Qv rfl ?_;repeat(refine s_ ?_;simp)
   rw[<-hI];rfl
  |none=>
   rw[hc]at hI;simp[v2g];repeat(refine s_ ?_;simp)
   refine Qv rfl ?_;repeat(refine s_ ?_;simp[hw])
   refine Qs _ (ih z1 hI) rfl (by simp) ?_ (by simp) (by simp);simp
 have zc:i=p.length:=by simp at zb;omega
 subst zc;repeat(refine s_ ?_;simp)
 rw[show T - p.length=0 by omega]at hI;rw[<-hI];unfold lqB;rfl
def k0f(x y:Sy):PC prog 182 [encSy x,encSy y] (λr=>r= .bool (K0 x y)):=by
 refine pcB func182 results182 ntmps182 ?_;simp only[Qe];simp only[encSy,K0];by_cases h1:x.ty<y.ty
 ·repeat(refine s_ ?_;simp[h1])
 by_cases h2:x.ty=y.ty
 ·repeat(refine s_ ?_;simp[h1,h2])
 have hb:(x.ty==y.ty)=false:=by simpa using h2
 repeat(refine s_ ?_;simp[h1,h2,hb])
end
section
open Go.Maps Go.RowKit
def j10:Option Int->AV
 |some m=> .tup [.i m,.bool true]
 |none=> .tup [.i 0,.bool false]
def u1b(l:List Iv)(n:Int):PC prog 281 [LIv l,.i n] (λr=>r=j10 (g09 l n)):=by
 refine pcB func281 results281 ntmps281 ?_;simp only[Qe];refine Tw 0 rfl (λhlen=>?_);rw[yL]at hlen;obtain⟨R,hR⟩:∃R,g09 l n=R:=⟨_,rfl⟩
 rw[hR];repeat(refine s_ ?_;simp)
 refine Qu l.length (λj=>g09 (l.drop j) n=R) (λj=>[(1,.i n),(8,LIv l),(9,.i l.length),(10,.i j)]) (λ_=>[]) rfl (by simp) (by simp) (by simp) (by simp) (by simpa using hR) ?_;intro j hj hI ih;repeat(refine s_ ?_;simp)
 refine Qa rfl (λza=>?_) (λzb=>?_)
 ·have z1:j<l.length:=by simpa using za
  have hw:=wz j (by omega);rw[Ec z1,g09]at hI;have z7:(l.map encIv)[j]?=some (encIv l[j]):=by simp[z1]
  have z8:∀hh,(l.map encIv)[j]'hh=encIv l[j]:=λhh=>by simp
  generalize l[j]=x at *;simp only[encIv]at z7 z8
  repeat(refine s_ ?_;simp[z7,z8,z1])
  refine Qa rfl (λh=>?_) (λh=>?_)
  ·rw[if_pos (by simpa using h)]at hI;subst hI;repeat(refine s_ ?_;simp)
   simp only[j10,c16]
  rw[if_neg (by simpa using h)]at hI;repeat(refine s_ ?_;simp[hw])
  refine Qs _ (ih z1 hI) rfl (by simp) ?_ (by simp) (by simp);simp
 have z6:j=l.length:=by simp at zb;omega
 subst z6;rw[x_]at hI;subst hI;repeat(refine s_ ?_;simp)
 rfl
def bdL(l:List Iv):Prop:=∀x∈l,-1099511627776<=x.lo/\x.hi<=1099511627776
def g0g(l:List Iv)(n:Int)(hb:bdL l):PC prog 282 [LIv l,.i n] (λr=>r= .i (v0k l n)):=by
 refine pcB func282 results282 ntmps282 ?_;simp only[Qe];refine Tw 0 rfl (λhlen=>?_);rw[yL]at hlen;obtain⟨R,hR⟩:∃R,v0k l n=R:=⟨_,rfl⟩
 rw[hR];repeat(refine s_ ?_;simp)
 refine Qi (Qc (sl':=[(1,.i n),(7,LIv l),(8,.i l.length),(9,.i (0:Nat))]) ?_ (by simp));refine Qj (P:=prog) (F:=λ(u:Nat×Int×List AObj)=>⟨[(1,.i u.2.1),(7,LIv l),(8,.i l.length),(9,.i u.1)],u.2.2⟩)
  (λu=>u.1<=l.length/\v0k (l.drop u.1) u.2.1=R) (λu=>l.length - u.1) ?_ (0,n,[]) ⟨xP _,by simpa using hR⟩
 clear hR;rintro⟨j,c,G⟩ ⟨hj,hI⟩ ih;simp only at hj hI ih |-;repeat(refine s_ ?_;simp)
 refine Qa rfl (λzb=>?_) (λzc=>?_)
 ·have z1:j<l.length:=by simpa using zb
  have hw:=wz j (by omega);rw[Ec z1,v0k]at hI;have z6:(l.map encIv)[j]?=some (encIv l[j]):=by simp[z1]
  have z7:∀hh,(l.map encIv)[j]'hh=encIv l[j]:=λhh=>by simp
  have hx:=hb _ (zT z1);generalize l[j]=x at *;simp only[encIv]at z6 z7
  by_cases h1:x.lo<=c
  ·have d1:decide (x.lo<=c)=true:=by simpa using h1
   repeat(refine s_ ?_;simp[z6,z7,z1,d1])
   refine Qa rfl (λh=>?_) (λh=>?_)
   ·have h2:c<=x.hi:=by simpa using h
    rw[if_pos ⟨h1,h2⟩]at hI;have z8:IntKind.i64.wrap (x.hi+1)=x.hi+1:=wrap_i64 _ (by omega) (by omega);repeat(refine s_ ?_;simp[z8,hw])
    refine Qc (sl':=[(1,.i (x.hi+1)),(7,LIv l),(8,.i l.length),(9,.i (j+1:Nat))]) ?_ (by simp);exact ih (j+1,x.hi+1,_) ⟨by simp only;omega,hI⟩ (by simp only;omega)
   have h2:¬c<=x.hi:=by simpa using h
   rw[if_neg (λk=>h2 k.2)]at hI;repeat(refine s_ ?_;simp[hw])
   refine Qc (sl':=[(1,.i c),(7,LIv l),(8,.i l.length),(9,.i (j+1:Nat))]) ?_ (by simp);exact ih (j+1,c,_) ⟨by simp only;omega,hI⟩ (by simp only;omega)
  have d1:decide (x.lo<=c)=false:=by simpa using h1
  rw[if_neg (λk=>h1 k.1)]at hI;repeat(refine s_ ?_;simp[z6,z7,z1,d1])
  refine Qa rfl (λh=>by simp at h) (λh=>?_);repeat(refine s_ ?_;simp[hw])
  refine Qc (sl':=[(1,.i c),(7,LIv l),(8,.i l.length),(9,.i (j+1:Nat))]) ?_ (by simp);exact ih (j+1,c,_) ⟨by simp only;omega,hI⟩ (by simp only;omega)
 have za:j=l.length:=by simp at zc;omega
 subst za;rw[x_]at hI;subst hI;repeat(refine s_ ?_;simp)
 rfl
def u1h:Option Int->AV
 |some m=> .tup [.i m,.bool (decide (m<=1099511627776))]
 |none=> .tup [.i 0,.bool false]
def f2w(O:List (List Iv)):Option Int->Option Int
 |some m=>some (y11 O m)
 |none=>none
def v2i(I O:List (List Iv))(n:Int):q2o I O n=f2w O (x1k I n):=by unfold q2o f2w;cases x1k I n<;>rfl
def z04{t:Nat}{ps:List Prd}{j:Nat}(h:j<ps.length):Dj t (ps.drop j)=ps[j].getD t []::Dj t (ps.drop (j+1)):=by unfold Dj;rw[Ec h];rfl
def k22{T:Nat}{p:Prd}(h:PCk T p){s:List Iv}(hs:s∈p):bdL s:=λx hx=>by obtain⟨i,hi,rfl⟩:=List.getElem_of_mem hx;have:=(h.2 s hs).iv hi;omega
def z16{p:Prd}{t:Nat}(h:t<p.length):p.getD t []=p[t]:=by simp[yV,h]
def Xf{T:Nat}{p:Prd}(h:PCk T p){t:Nat}(ht:t<T):(p.map encL)[t]?=some (encL (p.getD t []))/\p.getD t []∈p:=by
 have hl:t<p.length:=by rw[h.1];exact ht
 rw[z16 hl];exact⟨by simp[hl],zT hl⟩
attribute [local irreducible] g09 v0k
def u1r(T:Nat)(ins outs:List Prd)(zj:∀p∈ins,PCk T p)(zc:∀p∈outs,PCk T p)(t:Nat)(ht:t<T)(n:Int):PC prog 233 [.i n,.i t,LP ins,LP outs] (λr=>r=u1h (q2o (Dj t ins) (Dj t outs) n)):=by
 refine pcB func233 results233 ntmps233 ?_;simp only[Qe];refine Tw 2 rfl (λhlen=>?_);refine Tw 3 rfl (λz7=>?_);rw[yL]at hlen z7;obtain⟨R,hR⟩:∃R,q2o (Dj t ins) (Dj t outs) n=R:=⟨_,rfl⟩
 rw[hR];rw[v2i]at hR;repeat(refine s_ ?_;simp)
 refine Qi (Qc (sl':=[(0,.i n),(1,.i t),(3,LP outs),(16,LP ins),(17,.i ins.length),(18,.i (0:Nat))]) ?_ (by simp));refine Qj (P:=prog) (F:=λ(u:Nat×Int×List AObj)=>⟨[(0,.i u.2.1),(1,.i t),(3,LP outs),(16,LP ins),(17,.i ins.length),(18,.i u.1)],u.2.2⟩)
  (λu=>u.1<=ins.length/\f2w (Dj t outs) (x1k (Dj t (ins.drop u.1)) u.2.1)=R) (λu=>ins.length - u.1) ?_ (0,n,[]) ⟨xP _,by simpa using hR⟩
 clear hR;rintro⟨j,c,G⟩ ⟨hj,hI⟩ ih;simp only at hj hI ih |-;repeat(refine s_ ?_;simp)
 refine Qa rfl (λzd=>?_) (λze=>?_)
 ·have z1:j<ins.length:=by simpa using zd
  have hw:=wz j (by omega);rw[z04 z1,x1k]at hI;have z8:(ins.map encP)[j]?=some (encP ins[j]):=by simp[z1]
  have za:∀hh,(ins.map encP)[j]'hh=encP ins[j]:=λhh=>by simp
  have hp:=zj _ (zT z1);generalize ins[j]=p at *
  obtain⟨zb,zh⟩:=Xf hp ht;have zf:∀hh,(p.map encL)[t]'hh=encL (p.getD t []):=λhh=>(yI hh).2 zb;have zg:t<p.length:=by rw[hp.1];exact ht
  generalize p.getD t []=s at *;simp only[encP]at z8 za
  repeat(refine s_ ?_;simp[z8,za,z1,zb,zf,zg])
  refine pcL (u1b s c) ?_;simp;cases hf:g09 s c with
  |none=>
   rw[hf]at hI;simp only at hI;subst hI;simp[j10];repeat(refine s_ ?_;simp)
   refine Qa rfl (λ_=>?_) (λh=>by simp at h);repeat(refine s_ ?_;simp)
   rfl
  |some m=>
   rw[hf]at hI;simp only at hI;simp[j10];repeat(refine s_ ?_;simp)
   refine Qa rfl (λh=>by simp at h) (λ_=>?_);repeat(refine s_ ?_;simp[hw])
   refine Qc (sl':=[(0,.i m),(1,.i t),(3,LP outs),(16,LP ins),(17,.i ins.length),(18,.i (j+1:Nat))]) ?_ (by simp);exact ih (j+1,m,_) ⟨by simp only;omega,hI⟩ (by simp only;omega)
 have z6:j=ins.length:=by simp at ze;omega
 subst z6;rw[x_]at hI;simp only[Dj,wT,x1k]at hI;clear ih;repeat(refine s_ ?_;simp)
 have zi:some (y11 (Dj t outs) c)=R:=hI;refine Qi (Qc (sl':=[(0,.i c),(1,.i t),(36,LP outs),(37,.i outs.length),(38,.i (0:Nat))]) ?_ (by simp));refine Qj (P:=prog) (F:=λ(u:Nat×Int×List AObj)=>⟨[(0,.i u.2.1),(1,.i t),(36,LP outs),(37,.i outs.length),(38,.i u.1)],u.2.2⟩)
  (λu=>u.1<=outs.length/\some (y11 (Dj t (outs.drop u.1)) u.2.1)=R) (λu=>outs.length - u.1) ?_ (0,c,G) ⟨xP _,by simpa using zi⟩
 clear hI zi;clear G c;rintro⟨j,c,G⟩ ⟨hj,hI⟩ ih;simp only at hj hI ih |-;repeat(refine s_ ?_;simp)
 refine Qa rfl (λzd=>?_) (λze=>?_)
 ·have z1:j<outs.length:=by simpa using zd
  have hw:=wz j (by omega);rw[z04 z1,y11]at hI;have z8:(outs.map encP)[j]?=some (encP outs[j]):=by simp[z1]
  have za:∀hh,(outs.map encP)[j]'hh=encP outs[j]:=λhh=>by simp
  have hp:=zc _ (zT z1);generalize outs[j]=p at *
  obtain⟨zb,zh⟩:=Xf hp ht;have zf:∀hh,(p.map encL)[t]'hh=encL (p.getD t []):=λhh=>(yI hh).2 zb;have zg:t<p.length:=by rw[hp.1];exact ht
  have zk:=k22 hp zh;generalize p.getD t []=s at *;simp only[encP]at z8 za
  repeat(refine s_ ?_;simp[z8,za,z1,zb,zf,zg])
  refine pcL (g0g s c zk) ?_;simp;generalize v0k s c=m at *
  repeat(refine s_ ?_;simp[hw])
  refine Qc (sl':=[(0,.i m),(1,.i t),(36,LP outs),(37,.i outs.length),(38,.i (j+1:Nat))]) ?_ (by simp);exact ih (j+1,m,_) ⟨by simp only;omega,hI⟩ (by simp only;omega)
 have z6:j=outs.length:=by simp at ze;omega
 subst z6;rw[x_]at hI;simp only[Dj,wT,y11]at hI;subst hI;repeat(refine s_ ?_;simp)
 simp[u1h]
def k2h{T:Nat}{ps:List Prd}(h:∀p∈ps,PCk T p){t:Nat}(ht:t<T):∀l∈Dj t ps,Sep l:=λl hl=>by unfold Dj at hl;obtain⟨p,hp,rfl⟩:=zU.1 hl;exact Sb ((h p hp).2 _ (Xf (h p hp) ht).2)
attribute [local irreducible] q2o Ht
def Mc(T:Nat)(hT:T<=1000)(ins outs:List Prd)(zi:∀p∈ins,PCk T p)(ze:∀p∈outs,PCk T p)(P:Prd)(hf:FitP T ins outs P):PC prog 193 [.i T,LP ins,LP outs] (λr=>r=He (V7 P)):=by
 refine pcB func193 results193 ntmps193 ?_;simp only[Qe];have hex:=λt n=>hf.mem t n;have za:=λt n h1 h2 h3 h4 h5=>hf.some (t:=t) (n:=n) h1 h2 h3 h4 h5;have zb:=hf.none;have zj:=λt h k=>hf.no (t:=t) h k;generalize V7 P=R at *
 repeat(refine s_ ?_;simp)
 refine Qi (Qc (sl':=[(1,LP ins),(2,LP outs),(6,.vptr 0 0),(12,.i T),(13,.i (0:Nat))]) ?_ (by simp));refine Qj (P:=prog) (F:=λ(t:Nat)=>⟨[(1,LP ins),(2,LP outs),(6,.vptr 0 0),(12,.i T),(13,.i t)],[.vars [.i 0,.i 0]]⟩)
  (λt=>t<=T/\∀t',t'<t->∀k,¬PM P t' k) (λt=>T - t) ?_ 0 ⟨xP _,λt' h=>absurd h (sr _)⟩
 rintro t ⟨zn,hb⟩ ih;repeat(refine s_ ?_;simp)
 refine Qa rfl (λzk=>?_) (λzl=>?_)
 ·have z6:t<T:=by simpa using zk
  have hw:=wz t (by omega);have zc:=λn=>u1r T ins outs zi ze t z6 n;have zm:=λn=>v1n (Dj t ins) (Dj t outs) n (k2h zi z6);have z7:=λn=>za t n z6 hb;have zf:=zj t;generalize Dj t ins=I at *;generalize Dj t outs=O at *
  repeat(refine s_ ?_;simp)
  refine Qi (Qc (sl':=[(1,LP ins),(2,LP outs),(6,.vptr 0 0),(8,.i t),(9,.i (-1099511627776)),(12,.i T),(13,.i t)]) ?_ (by simp));refine Qj (P:=prog) (F:=λ(n:Int)=>⟨[(1,LP ins),(2,LP outs),(6,.vptr 0 0),(8,.i t),(9,.i n),(12,.i T),(13,.i t)],[.vars [.i 0,.i 0]]⟩)
   (λn=>inR n/\∀k,inR k->Ht I O k->n<=k) (λn=>(1099511627777 - n).toNat) ?_ (-1099511627776) ⟨by unfold inR;omega,λk hk _=>hk.1⟩
  rintro n ⟨hn,z1⟩ ih2;repeat(refine s_ ?_;simp)
  refine pcL (zc n) ?_;simp;have z8:=zm n;have zd:(∀k,inR k->¬Ht I O k)->∀t',t'<t+1->∀k,¬PM P t' k:=λh t' zo k=>by
   by_cases e:t'=t
   ·subst e;exact zf h k
   exact hb t' (by omega) k
  cases hx:q2o I O n with
  |none=>
   rw[hx]at z8;simp only at z8;simp[u1h];repeat(refine s_ ?_;simp)
   refine Qa rfl (λ_=>?_) (λh=>by simp at h);repeat(refine s_ ?_;simp[hw])
   refine Qc (sl':=[(1,LP ins),(2,LP outs),(6,.vptr 0 0),(12,.i T),(13,.i (t+1:Nat))]) ?_ (by simp);exact ih (t+1) ⟨by omega,zd λk hk hg=>z8 k (z1 k hk hg) hg⟩ (by omega)
  |some m=>
   rw[hx]at z8;simp only at z8;obtain⟨s1,s2,s3⟩:=z8;simp[u1h];by_cases hm:m<=1099511627776
   ·repeat(refine s_ ?_;simp[hm])
    refine Qa rfl (λh=>by simp[hm]at h) (λ_=>?_);repeat(refine s_ ?_;simp)
    refine Qa rfl (λh=>?_) (λh=>?_)
    ·have e:m=n:=by simpa using h
     have zg:=z7 n hn (s3 e) z1;subst zg;repeat(refine s_ ?_;simp)
     simp[He,encSy]
    have e:m≠n:=by simpa using h
    repeat(refine s_ ?_;simp)
    refine Qc (sl':=[(1,LP ins),(2,LP outs),(6,.vptr 0 0),(8,.i t),(9,.i m),(12,.i T),(13,.i t)]) ?_ (by simp);exact ih2 m ⟨⟨by have:=hn.1;omega,hm⟩,λk hk hg=>s2 k (z1 k hk hg) hg⟩ (by have:=hn.1;omega)
   repeat(refine s_ ?_;simp[hm])
   refine Qa rfl (λ_=>?_) (λh=>by simp[hm]at h);repeat(refine s_ ?_;simp[hw])
   refine Qc (sl':=[(1,LP ins),(2,LP outs),(6,.vptr 0 0),(12,.i T),(13,.i (t+1:Nat))]) ?_ (by simp);exact ih (t+1) ⟨by omega,zd λk hk hg=>hm (Int.le_trans (s2 k (z1 k hk hg) hg) hk.2)⟩ (by omega)
 have zh:t=T:=by simp at zl;omega
 subst zh;have zg:=zb hb;subst zg;repeat(refine s_ ?_;simp)
 simp[He,encSy]
end
section
open Go.Maps Go.RowKit
section
variable {P:Program} [Env P] {nt k:Nat} {ops:Array Oper} {o:Oper} {R:AS->Prop}
def Nu{wr:Bool}{sl:List (Nat×AV)}{H:List AObj}(i:Nat){e c:Nat}{xs:List AV}(hi:H[i]?=some (.arr e c xs))(h:We P nt k wr ops o ⟨sl,H.set i (.arr e c (xs.map AV.nrm))⟩ R):We P nt k wr ops o ⟨sl,H⟩ R:=
 λC a w K Q hs=>h C a w K Q (hs.swap hi rfl (λ_ _=>Uo.nrmArr))
end
def W5(s:Int):Option Mv->AV
 |some m=>encMv m
 |none=> .agg [.i s,.i (-1),.list []]
def x04{a:Aut}{s:Int}{j:Nat}(h:j<a.mv.length):(a.mv.take (j+1)).filter (λm=>decide (m.src=s))=(a.mv.take j).filter (λm=>decide (m.src=s))++(if a.mv[j].src=s then [a.mv[j]]else []):=by
 rw[zY h,List.filter_append]
 congr 1
 by_cases e:a.mv[j].src=s<;>simp[e]
def d2s(a:Aut)(s:Int)(j:Nat):((a.mv.take j).filter λm=>decide (m.src=s)).length<=a.mv.length:=Nat.le_trans (xN _ _) (by rw[List.length_take];omega)
def Kf(a:Aut)(s:Int)(zm:a.mv.length<=1000000):PC prog 191 [encA a,.i s] (λr=>r= .list ((Wl a s).map (W5 s))):=by
 refine pcB func191 results191 ntmps191 ?_;simp only[Qe];simp only[encA];refine Wf 0 2 rfl rfl (λhlen=>?_);rw[yL]at hlen;repeat(refine s_ ?_;simp)
 have zc:=λj (h:j<a.mv.length)=>x04 (a:=a) (s:=s) h;have zd:=λj=>d2s a s j;refine Q5 5 73 3 rfl ?_;simp;obtain⟨K,hK⟩:∃K,K=[AObj.vars (Ql a)]:=⟨_,rfl⟩
 have hst:=SL.start K 73 3;refine Qi (Qc (sl':=[(1,.i s),(5,.sl 1 3 0 ((a.mv.take 0).filter λm=>decide (m.src=s)).length),(9,.list (a.mv.map encMv)),(10,.i a.mv.length),(11,.i (0:Nat))]) ?_ (by simp));refine Qj (P:=prog) (F:=λ(u:Nat×Nat×List AObj)=>⟨[(1,.i s),(5,.sl u.2.1 3 0 ((a.mv.take u.1).filter λm=>decide (m.src=s)).length),(9,.list (a.mv.map encMv)),(10,.i a.mv.length),(11,.i u.1)],u.2.2⟩)
  (λu=>u.1<=a.mv.length/\SL K u.2.2 u.2.1 73 3 (((a.mv.take u.1).filter λm=>decide (m.src=s)).map encMv)) (λu=>a.mv.length - u.1) ?_ (0,1,_) ⟨xP _,by rw[hK]at hst |-;simpa using hst⟩
 rintro⟨j,q,G⟩ ⟨hj,g⟩ ih;simp only at hj g ih |-;have z8:=zd j;repeat(refine s_ ?_;simp)
 refine Qa rfl (λze=>?_) (λzf=>?_)
 ·have z1:j<a.mv.length:=by simpa using ze
  have hw:=wz j (by omega);have zg:=zc j z1;have z6:=λq' G'=>ih (j+1,q',G');simp only[zg]at z6;have za:(a.mv.map encMv)[j]?=some (encMv a.mv[j]):=by simp[z1]
  have zb:∀hh,(a.mv.map encMv)[j]'hh=encMv a.mv[j]:=λhh=>by simp
  generalize a.mv[j]=m at *;generalize (a.mv.take j).filter (λm=>decide (m.src=s))=P at *
  have z7:(P.map encMv).length=P.length:=by simp
  simp only[encMv]at za zb;repeat(refine s_ ?_;simp[za,zb,z1])
  refine Qa rfl (λh=>?_) (λh=>?_)
  ·have e:m.src=s:=by simpa using h
   rw[if_pos e]at z6;repeat(refine s_ ?_;simp)
   refine apS T23 T73 ?_;simp[Qb g.arr,Qh g.arr,z7];refine⟨by simp[W1,Qb g.arr,Qh g.arr,z7]<;>omega,?_⟩;repeat(refine s_ ?_;simp[hw])
   refine Qc (sl':=[(1,.i s),(5,.sl (G.length+2) 3 0 (P++[m]).length),(9,.list (a.mv.map encMv)),(10,.i a.mv.length),(11,.i (j+1:Nat))]) ?_ (by simp);have:=z6 (G.length+2) _ ⟨by omega,g.put [AObj.vars [.i m.src,.i m.dst,.list (m.on.map encL)],AObj.arr 73 3 [encMv m]] ((P++[m]).map encMv) rfl⟩ (by omega);simpa[encMv]using this
  have e:m.src≠s:=by simpa using h
  rw[if_neg e,xO]at z6;repeat(refine s_ ?_;simp[hw])
  refine Qc (sl':=[(1,.i s),(5,.sl q 3 0 P.length),(9,.list (a.mv.map encMv)),(10,.i a.mv.length),(11,.i (j+1:Nat))]) ?_ (by simp);exact z6 q _ ⟨by omega,g.add _⟩ (by omega)
 have zh:j=a.mv.length:=by simp at zf;omega
 subst zh;have zi:a.mv.take a.mv.length=a.mv:=yR;rw[zi]at g z8 |-;have zj:a.mv.filter (λm=>decide (m.src=s))=mvS a s:=rfl;have zk:(Wl a s).map (W5 s)=(mvS a s).map encMv++[.agg [.i s,.i (-1),.list []]]:=by unfold Wl;simp[W5]
 rw[zk];rw[zj]at g z8 |-;generalize mvS a s=P at *
 have z7:(P.map encMv).length=P.length:=by simp
 repeat(refine s_ ?_;simp)
 refine Nu G.length (e:=73) (c:=3) (xs:=[.agg [.i s,.i (-1),.nils]]) (by simp) ?_;have zl:∀u z:AObj,(G++[u]).set G.length z=G++[z]:=λu z=>by rw[List.set_append_right _ _ (by simp)];simp
 simp[zl];refine apS T23 T73 ?_;simp[Qb g.arr,Qh g.arr,z7];refine⟨by simp[W1,Qb g.arr,Qh g.arr,z7]<;>omega,?_⟩;repeat(refine s_ ?_;simp)
 rw[zZ (by simp)]
def Bb(a:Aut)(s:Int)(i:Nat)(o:Option Mv)(h:(Wl a s)[i]?=some o)(hl:a.mv.length<=1000000):PC prog 192 [.list ((Wl a s).map (W5 s)),.i i] (λr=>r= .tup [LP (Ls o),LP (A2 a s o)]):=by
 refine pcB func192 results192 ntmps192 ?_;simp only[Qe];have zr:(mvS a s).length<=a.mv.length:=xN _ _;have zh:(Wl a s).length=(mvS a s).length+1:=by unfold Wl;simp
 have zi:i<(Wl a s).length:=(zE.1 h).1;have zj:IntKind.i64.wrap ((mvS a s).length:Int)=(mvS a s).length:=wrap_i64 _ (by omega) (by omega);repeat(refine s_ ?_;simp[zh,zj])
 refine Qa rfl (λzk=>?_) (λzl=>?_)
 ·have z7:i<(mvS a s).length:=by simpa using zk
  obtain⟨m,rfl,z6⟩:∃m,o=some m/\((Wl a s).map (W5 s))[i]?=some (encMv m):=by unfold Wl at h |-;rw[zI (by simpa using z7)]at h;rw[z_,zI (by simpa using z7),h];rw[z_]at h;obtain⟨m,_,rfl⟩:=zX.1 h;exact⟨m,rfl,rfl⟩
  have z8:∀hh,((Wl a s).map (W5 s))[i]'hh=encMv m:=λhh=>(yI hh).2 z6;generalize Wl a s=L at *;simp only[encMv]at z6 z8
  repeat(refine s_ ?_;simp[z6,z8,zi])
  exact⟨rfl,rfl⟩
 have zm:i=(mvS a s).length:=by simp at zl;omega
 subst zm;obtain rfl:o=none:=by unfold Wl at h;rw[zO (by simp)]at h;simpa using h.symm
 have zn:((Wl a s).map (W5 s)).take (mvS a s).length=(mvS a s).map encMv:=by unfold Wl;rw[xA,List.take_append_of_le_length (by simp),zZ (by simp)];simp[W5]
 have hle:(mvS a s).length<=(Wl a s).length:=by omega
 repeat(refine s_ ?_;simp[hle])
 rw[if_pos (λo ho=>by cases o<;>rfl)];simp;rw[zn];have za:min (mvS a s).length (Wl a s).length=(mvS a s).length:=by omega
 rw[za];have zb:A2 a s none=(mvS a s).map (·.on):=rfl;rw[zb];generalize mvS a s=P at *;refine Q5 5 70 1 rfl ?_
 simp;repeat(refine s_ ?_;simp)
 refine Qi (Qc (sl':=[(4,.nils),(5,.sl 0 1 0 (0:Nat)),(21,.list (P.map encMv)),(22,.i P.length),(23,.i (0:Nat))]) ?_ (by simp));refine Qj (P:=prog) (F:=λ(u:Nat×Nat×List AObj)=>⟨[(4,.nils),(5,.sl u.2.1 1 0 u.1),(21,.list (P.map encMv)),(22,.i P.length),(23,.i u.1)],u.2.2⟩)
  (λu=>u.1<=P.length/\u.2.2[u.2.1]?=some (.arr 70 1 ((P.take u.1).map λm=>encP m.on))) (λu=>P.length - u.1) ?_ (0,0,_) ⟨xP _,by simp⟩
 rintro⟨j,q,G⟩ ⟨hj,gq⟩ ih;simp only at hj gq ih |-;repeat(refine s_ ?_;simp)
 refine Qa rfl (λzc=>?_) (λzd=>?_)
 ·have z1:j<P.length:=by simpa using zc
  have zo:=wz j (by omega);have ze:(P.take (j+1)).map (λm=>encP m.on)=(P.take j).map (λm=>encP m.on)++[encP P[j].on]:=by rw[zY z1,xA];rfl
  have zf:=λq' G'=>ih (j+1,q',G');simp only[ze]at zf;have z6:(P.map encMv)[j]?=some (encMv P[j]):=by simp[z1]
  have z8:∀hh,(P.map encMv)[j]'hh=encMv P[j]:=λhh=>by simp
  have zg:((P.take j).map λm=>encP m.on).length=j:=by simp;omega
  clear ze;generalize (P.take j).map (λm=>encP m.on)=acc at *
  generalize P[j]=m at *;simp only[encMv]at z6 z8
  repeat(refine s_ ?_;simp[z6,z8,z1])
  refine apS T87 T70 ?_;simp[Qb gq,Qh gq,zg];refine⟨by simp[W1,Qb gq,Qh gq,zg]<;>omega,?_⟩;repeat(refine s_ ?_;simp[zo])
  refine Qc (sl':=[(4,.nils),(5,.sl (G.length+2) 1 0 (j+1)),(21,.list (P.map encMv)),(22,.i P.length),(23,.i (j+1:Nat))]) ?_ (by simp);refine zf (G.length+2) _ ⟨by omega,?_⟩ (by omega);rw[zO (by simp)];simp[encP]
 have zp:j=P.length:=by simp at zd;omega
 subst zp;rw[yR]at gq;have zq:P.map (λm=>encP m.on)=(P.map (·.on)).map encP:=by rw[List.map_map];rfl
 rw[zq]at gq;repeat(refine s_ ?_;simp[gq])
 refine⟨rfl,?_⟩;rw[zZ (by simp)]
end
section
open Go.Maps Go.RowKit
attribute [simp] T25 T35
def z0y(a b:Aut):PC prog 126 [encA a,encA b] (λr=>r= .i (El a b)):=by
 refine pcB func126 results126 ntmps126 ?_;simp only[Qe];have cA:=Tg a;have cB:=Tg b;simp only[encA]at cA cB |-;obtain⟨R,hR⟩:∃R,El a b=R:=⟨_,rfl⟩
 rw[hR];unfold El at hR;have w1:IntKind.i64.wrap 1=1:=by decide
 have w2:IntKind.i64.wrap 2=2:=by decide
 repeat(refine s_ ?_;simp)
 refine Qu 2 (λj=>j=0\/Wd a=0/\(j=1\/Wd b=0)) (λj=>[(2,.vptr 0 0),(3,.vptr 1 0),(10,.sl 2 3 0 2),(11,.i (2:Nat)),(12,.i j)]) (λ_=>[.vars (Ql a),.vars (Ql b),.arr 25 3 [.agg (Ql a),.agg (Ql b)]]) rfl (by simp) (by simp) (by simp) (by simp) (.inl rfl) ?_;intro j hj hI ih;repeat(refine s_ ?_;simp)
 refine Qa rfl (λz8=>?_) (λza=>?_)
 ·have z1:j<2:=by simp at z8;omega
  obtain rfl|rfl:j=0\/j=1:=by omega
  ·repeat(refine s_ ?_;simp)
   refine pcL (cA) ?_;simp;repeat(refine s_ ?_;simp)
   refine Qa rfl (λh=>?_) (λh=>?_)
   ·rw[if_pos (by simpa using h)]at hR;subst hR;repeat(refine s_ ?_;simp)
   repeat(refine s_ ?_;simp[w1])
   refine Qs _ (ih z1 (.inr ⟨by simpa using h,.inl rfl⟩)) rfl (by simp) ?_ (by simp) (by simp);simp
  have h0:Wd a=0:=by rcases hI with h|h;exact absurd h (by decide);exact h.1
  rw[if_neg (by simpa using h0)]at hR;repeat(refine s_ ?_;simp)
  refine pcL (cB) ?_;simp;repeat(refine s_ ?_;simp)
  refine Qa rfl (λh=>?_) (λh=>?_)
  ·rw[if_pos (by simpa using h)]at hR;subst hR;repeat(refine s_ ?_;simp)
  repeat(refine s_ ?_;simp[w2])
  refine Qs _ (ih z1 (.inr ⟨h0,.inr (by simpa using h)⟩)) rfl (by simp) ?_ (by simp) (by simp);simp
 have z6:j=2:=by simp at za;omega
 subst z6;have z7:Wd a=0/\Wd b=0:=by
  rcases hI with h|⟨h1,h2⟩
  ·exact absurd h (by decide)
  exact⟨h1,h2.elim (λh=>absurd h (by decide)) id⟩
 rw[if_neg (by simpa using z7.1),if_neg (by simpa using z7.2)]at hR;repeat(refine s_ ?_;simp)
 refine Qa rfl (λh=>?_) (λh=>?_)
 ·rw[if_pos (by simpa using h)]at hR;subst hR;repeat(refine s_ ?_;simp)
 rw[if_neg (by simpa using h)]at hR;subst hR;repeat(refine s_ ?_;simp)
def x0z{n j:Nat}(h:j<=n){p:Int->Bool}(hp:∀i:Nat,i<j->p i=true)(hn:j=n\/p j=false):(Wj n).all p=decide (j=n):=by
 rw[Bool.eq_iff_iff,List.all_eq_true,decide_eq_true_eq];constructor
 ·intro k;rcases hn with e|e
  ·exact e
  by_cases e2:j=n
  ·exact e2
  have:=k j (Wo.2 ⟨by omega,by omega⟩);rw[e]at this;cases this
 intro e z hz;obtain⟨h0,h1⟩:=Wo.1 hz;obtain⟨i,rfl⟩:=Int.eq_ofNat_of_zero_le h0;exact hp i (by omega)
def onF(a:Aut)(s:Int)(j:Nat):List Prd:=((a.mv.take j).filter λm=>decide (m.src=s)).map (·.on)
def d1r(a:Aut)(s:Int):onF a s 0=[]:=by simp[onF]
def v15(a:Aut)(s:Int){j:Nat}(h:j<a.mv.length):onF a s (j+1)=onF a s j++(if a.mv[j].src=s then [a.mv[j].on]else []):=by
 unfold onF;rw[x04 h,xA]
 congr 1
 split<;>rfl
def q2u(a:Aut)(s:Int):onF a s a.mv.length=A2 a s none:=by unfold onF;rw[yR];rfl
def x2e(a:Aut)(s:Int)(j:Nat):(onF a s j).length<=a.mv.length:=by unfold onF;rw[yL];exact d2s a s j
def q2l(y:Option Sy):He y= .tup [.agg [.i (y.getD ⟨0,0⟩).ty,.i (y.getD ⟨0,0⟩).num],.bool y.isSome]:=by cases y<;>rfl
attribute [local irreducible] u1d V7 q0o onF
def y0n(a:Aut)(ha:OkA a):PC prog 134 [encA a] (λr=>r= .bool (K1 a)):=by
 refine pcB func134 results134 ntmps134 ?_;simp only[Qe];have zi:=ha.fin;have zj:=ha.mvs;have hd:u1d a=(Hq a,0):=by unfold u1d;rw[if_pos ((Yh a).2 ha)]
 have cD:=y13 a;rw[hd]at cD;simp only[encA]at cD |-;have hL:=λk:Int=>Mc a.types.toNat (by have:=ha.types;omega) [] (A2 a k none) (λp h=>by cases h) (λp hp=>by
  obtain⟨m,hm,rfl⟩:=zU.1 hp;exact(ha.mv m (R0.1 hm).1).on) (q0o a k none) (w0v ha (Ij.2 (.inl rfl)))
 have zk:((a.types.toNat:Nat):Int)=a.types:=by have:=ha.types;omega
 simp only[zk,q2l]at hL;have zl:∀k,Nh a k=(V7 (q0o a k none)).isSome:=λ_=>rfl;have z8:=q2u a;have zm:K1 a=(Hq a && (Wj a.fin.length).all λs=> !Nh a s):=rfl;rw[zm];have zn:=λk j (h:j<a.mv.length)=>v15 a k h;have zo:=λk j=>x2e a k j;have hz:=d1r a;repeat(refine s_ ?_;simp)
 refine pcL (cD) ?_;simp;repeat(refine s_ ?_;simp)
 cases hsg:Hq a with
 |false=>
  repeat(refine s_ ?_;simp)
  refine Qa rfl (λ_=>?_) (λh=>by simp at h);repeat ((refine s_ ?_;simp))
 |true=>
  repeat(refine s_ ?_;simp)
  refine Qa rfl (λh=>by simp at h) (λ_=>?_);repeat(refine s_ ?_;simp)
  refine Qi (Qc (sl':=[(1,.vptr 0 0),(24,.i a.fin.length),(25,.i (0:Nat))]) ?_ (by simp));refine Qj (P:=prog) (F:=λ(u:Nat×List AObj)=>⟨[(1,.vptr 0 0),(24,.i a.fin.length),(25,.i u.1)],u.2⟩)
   (λu=>u.1<=a.fin.length/\(∀i:Nat,i<u.1->(!Nh a i)=true)/\u.2[0]?=some (.vars (Ql a))) (λu=>a.fin.length - u.1) ?_ (0,_) ⟨xP _,λi h=>absurd h (sr _),rfl⟩
  rintro⟨k,G⟩ ⟨hk,hI,g0⟩ ih;simp only at hk hI g0 ih |-;repeat(refine s_ ?_;simp)
  refine Qa rfl (λzp=>?_) (λzq=>?_)
  ·have zr:k<a.fin.length:=by simpa using zp
   have hw:=wz k (by omega);have zt:=zn k;have zu:=zo k;have zv:=hL k;repeat(refine s_ ?_;simp[g0])
   refine Q5 6 70 1 rfl ?_;simp;have hst:=SL.start G 70 1;refine Qi (Qc (sl':=[(1,.vptr 0 0),(5,.i k),(6,.sl G.length 1 0 (onF a k 0).length),(24,.i a.fin.length),(25,.i k),(29,.list (a.mv.map encMv)),(30,.i a.mv.length),(31,.i (0:Nat))]) ?_ (by simp[hz]));refine Qj (P:=prog) (F:=λ(u:Nat×Nat×List AObj)=>⟨[(1,.vptr 0 0),(5,.i k),(6,.sl u.2.1 1 0 (onF a k u.1).length),(24,.i a.fin.length),(25,.i k),(29,.list (a.mv.map encMv)),(30,.i a.mv.length),(31,.i u.1)],u.2.2⟩)
    (λu=>u.1<=a.mv.length/\SL G u.2.2 u.2.1 70 1 ((onF a k u.1).map encP)) (λu=>a.mv.length - u.1) ?_ (0,G.length,_) ⟨xP _,by rw[hz];simpa using hst⟩
   rintro⟨j,q,E⟩ ⟨hj,g⟩ ih2;simp only at hj g ih2 |-;have zw:=zu j;repeat(refine s_ ?_;simp)
   refine Qa rfl (λza=>?_) (λzb=>?_)
   ·have z1:j<a.mv.length:=by simpa using za
    have ze:=wz j (by omega);have zx:=zt j z1;have z6:=λq' G'=>ih2 (j+1,q',G');simp only[zx]at z6;have zf:(a.mv.map encMv)[j]?=some (encMv a.mv[j]):=by simp[z1]
    have zg:∀hh,(a.mv.map encMv)[j]'hh=encMv a.mv[j]:=λhh=>by simp
    generalize a.mv[j]=m at *;generalize onF a k j=P at *
    have z7:(P.map encP).length=P.length:=by simp
    simp only[encMv]at zf zg;repeat(refine s_ ?_;simp[zf,zg,z1])
    refine Qa rfl (λh=>?_) (λh=>?_)
    ·have e:m.src=k:=by simpa using h
     rw[if_pos e]at z6;repeat(refine s_ ?_;simp)
     refine apS T87 T70 ?_;simp[Qb g.arr,Qh g.arr,z7];refine⟨by simp[W1,Qb g.arr,Qh g.arr,z7]<;>omega,?_⟩;repeat(refine s_ ?_;simp[ze])
     refine Qc (sl':=[(1,.vptr 0 0),(5,.i k),(6,.sl (E.length+2) 1 0 (P++[m.on]).length),(24,.i a.fin.length),(25,.i k),(29,.list (a.mv.map encMv)),(30,.i a.mv.length),(31,.i (j+1:Nat))]) ?_ (by simp);have:=z6 (E.length+2) _ ⟨by omega,g.put [AObj.vars [.i m.src,.i m.dst,.list (m.on.map encL)],AObj.arr 70 1 [encP m.on]] ((P++[m.on]).map encP) rfl⟩ (by omega);simpa[encP]using this
    have e:m.src≠k:=by simpa using h
    rw[if_neg e,xO]at z6;repeat(refine s_ ?_;simp[ze])
    refine Qc (sl':=[(1,.vptr 0 0),(5,.i k),(6,.sl q 1 0 P.length),(24,.i a.fin.length),(25,.i k),(29,.list (a.mv.map encMv)),(30,.i a.mv.length),(31,.i (j+1:Nat))]) ?_ (by simp);exact z6 q _ ⟨by omega,g.add _⟩ (by omega)
   have zy:j=a.mv.length:=by simp at zb;omega
   subst zy;rw[z8]at g zw |-;have e0:=g.kp g0;have z7:((A2 a k none).map encP).length=(A2 a k none).length:=by simp
   have zc:((A2 a k none).map encP).take (A2 a k none).length=(A2 a k none).map encP:=zZ (by simp);have zh:=zl k;generalize V7 (q0o a k none)=Y at *;generalize A2 a k none=P at *
   repeat(refine s_ ?_;simp[e0])
   refine Oz rfl rfl (by first|(simp[g.arr,zc,z7];done)|(simp[g.arr,zc,z7];rfl)) (zv) rfl ?_;rintro _ rfl;refine⟨by first|simp|rfl|trivial,?_⟩;simp[g.arr,zc,z7];cases Y with
   |some y=>
    have hf:(Wj a.fin.length).all (λs=> !Nh a s)=false:=by rw[x0z (j:=k) (by omega) hI (.inr (by rw[zh];rfl))];simp;omega
    rw[hf];repeat(refine s_ ?_;simp)
    refine Qa rfl (λ_=>?_) (λh=>by simp at h);repeat ((refine s_ ?_;simp))
   |none=>
    repeat(refine s_ ?_;simp)
    refine Qa rfl (λh=>by simp at h) (λ_=>?_);repeat(refine s_ ?_;simp[hw])
    refine Qc (sl':=[(1,.vptr 0 0),(24,.i a.fin.length),(25,.i (k+1:Nat))]) ?_ (by simp);refine ih (k+1,_) ⟨by omega,λi hi=>?_,Qb e0 _⟩ (by omega);by_cases e:i=k
    ·subst e;rw[zh];rfl
    exact hI i (by omega)
  have zd:k=a.fin.length:=by simp at zq;omega
  subst zd;have hf:(Wj a.fin.length).all (λs=> !Nh a s)=true:=by rw[x0z (zW _) hI (.inl rfl)];simp
  rw[hf];repeat(refine s_ ?_;simp)
attribute [local irreducible] El K1
def Lg(a b:Aut):PC prog 69 [encA a,encA b] (λr=>r= .i (Yg a b)):=by
 refine pcB func69 results69 ntmps69 ?_;simp only[Qe];obtain⟨R,hR⟩:∃R,Yg a b=R:=⟨_,rfl⟩
 rw[hR];rw[g0p]at hR;have cB:=z0y a b;have z6:El a b=0->OkA a/\OkA b:=λh=>⟨(Tf.1 h).1,(Tf.1 h).2.1⟩
 simp only[encA]at cB |-;repeat(refine s_ ?_;simp)
 refine pcL (cB) ?_;simp;repeat(refine s_ ?_;simp)
 refine Qa rfl (λh=>?_) (λh=>?_)
 ·repeat(refine s_ ?_;simp)
  have h':El a b≠0:=by simpa using h
  rw[if_pos h']at hR;exact hR
 have h':¬El a b≠0:=by simpa using h
 rw[if_neg h']at hR;obtain⟨ha,hb⟩:=z6 (by simpa using h);have cF:=y0n a ha;have cG:=y0n b hb;simp only[encA]at cF cG;repeat(refine s_ ?_;simp)
 refine pcL (cF) ?_;simp;cases z1:K1 a with
 |true=>
  repeat(refine s_ ?_;simp)
  refine pcL (cG) ?_;simp;cases hfb:K1 b with
  |true=>
   repeat(refine s_ ?_;simp)
   refine Qa rfl (λh=>by simp at h) (λ_=>?_);repeat(refine s_ ?_;simp)
   rw[<-hR,z1,hfb];rfl
  |false=>
   repeat(refine s_ ?_;simp)
   refine Qa rfl (λ_=>?_) (λh=>by simp at h);repeat(refine s_ ?_;simp)
   rw[<-hR,z1,hfb];rfl
 |false=>
  repeat(refine s_ ?_;simp)
  refine Wg rfl rfl ?_;simp;repeat(refine s_ ?_;simp)
  refine Qa rfl (λ_=>?_) (λh=>by simp at h);repeat(refine s_ ?_;simp)
  rw[<-hR,if_pos (.inl z1)]
def N3(a:Aut)(s:Int)(hs:inD a s):PC prog 127 [encA a,.i s] (λr=>r= .bool (w02 a s)):=by
 refine pcB func127 results127 ntmps127 ?_;simp only[Qe];simp only[encA];unfold w02;by_cases h1:s= -1
 ·subst h1;repeat(refine s_ ?_;simp)
 have hr:inS a s:=hs.resolve_left h1;obtain⟨k,rfl⟩:∃k:Nat,s=k:=⟨s.toNat,(P7 hr).2.symm⟩
 have hk:k<a.fin.length:=by have:=hr.2;omega
 have z1:((k:Int)== -1)=false:=by simp
 have z6:a.fin.getD k false=a.fin[k]:=by simp[yV,hk]
 repeat(refine s_ ?_;simp[z1,hk])
end
section
def j1q(H:List AObj)(n:Nat)(h0:0<n)(hn:n<=100000):FC prog 234 [.nils,.i n] H
  (λr H'=>r= .sl H.length 1 0 0/\H'=H++[.arr 70 1 []]):=by
 have z6:¬((n:Int)<0):=by omega
 have hw:IntKind.i64.wrap (n:Int)=n:=wrap_i64 _ (by omega) (by omega);refine fcB func234 results234 ntmps234 ?_;simp only[Qe];repeat(refine s_ ?_;simp)
 refine Qa rfl (λh=>?_) (λh=>?_)
 ·simp[z6]at h
 have z1:IntKind.i64.wrap 0=0:=by decide
 repeat(refine s_ ?_;simp[hw])
 refine Oi tOk rfl rfl T87 rfl rfl rfl ?_;simp[hw,z1];repeat(refine s_ ?_;simp[hw,z1])
 refine Qa rfl (λh2=>?_) (λh2=>?_)
 ·repeat(refine s_ ?_;simp[hw,z1])
  refine Oi tOk rfl rfl T87 rfl rfl rfl ?_;simp[hw,z1];refine Am tOk rfl rfl T87 rfl T3 rfl T70 rfl (by decide) rfl (n:=n) rfl h0 (by simp;omega) (by omega) (.agg [.nils]) rfl rfl ?_;simp;refine q1a H.length 0 (w2s H _ []) ?_;simp;repeat(refine s_ ?_;simp)
 simp at h2;omega
def c0q(H:List AObj):FC prog 234 [.nils,.i 0] H (λr H'=>r= .nils/\H'=H):=by
 refine fcB func234 results234 ntmps234 ?_;simp only[Qe];have z1:IntKind.i64.wrap 0=0:=by decide
 repeat(refine s_ ?_;simp)
 refine Qv rfl ?_;simp;repeat(refine s_ ?_;simp[z1])
 refine Oi tOk rfl rfl T87 rfl rfl rfl ?_;simp[z1];repeat(refine s_ ?_;simp[z1])
 refine Qv rfl ?_;simp;repeat(refine s_ ?_;simp[z1])
def Oa(ls:List (List Prd)):List Prd:=ls.flatten
def Ho(ls:List (List Prd))(j:Nat)(h:j<ls.length):Oa (ls.take (j+1))=Oa (ls.take j)++ls[j]:=by unfold Oa;rw[zY h,tG];simp only[List.flatten_cons,List.flatten_nil,xO]
def w0c(ls:List (List Prd))(j:Nat):(Oa (ls.take j)).length<=(Oa ls).length:=by
 conv=>rhs;rw[<-List.take_append_drop j ls,Oa,tG,yP]
 rw[Oa];omega
def Xn(ls:List (List Prd)):Oa (ls.take ls.length)=Oa ls:=by rw[yR]
def S1:Oa []=[]:=rfl
attribute [local irreducible] Oa
def Zy(ls:List (List Prd))(hl:ls.length<=1000)(ht:(Oa ls).length<=100000):PC prog 194 [.list (ls.map LP)] (λr=>r=LP (Oa ls)):=by
 refine pcB func194 results194 ntmps194 ?_;simp only[Qe];repeat(refine s_ ?_;simp)
 refine Qu ls.length (λ_=>True) (λj=>[(0,.list (ls.map LP)),(3,.i (Oa (ls.take j)).length),(9,.list (ls.map LP)),(10,.i ls.length),(11,.i j)]) (λ_=>[]) rfl (by simp) (by simp[S1]) (by simp) (by simp) trivial ?_;intro j hj hI ih;repeat(refine s_ ?_;simp)
 refine Qa rfl (λz8=>?_) (λza=>?_)
 ·have z1:j<ls.length:=by simpa using z8
  have hw:=wz j (by omega);have zc:=w0c ls (j+1);have ih:=ih z1 trivial;have z7:(Oa (ls.take (j+1))).length=(Oa (ls.take j)).length+ls[j].length:=by rw[Ho ls j z1,yP]
  generalize (Oa (ls.take (j+1))).length=m at *;generalize (Oa (ls.take j)).length=k at *
  have zd:IntKind.i64.wrap ((k:Int)+ls[j].length)=m:=by rw[wrap_i64 _ (by omega) (by omega)];omega
  repeat(refine s_ ?_;simp[z1,zd])
  refine Qa rfl (λh2=>?_) (λh2=>?_)
  ·simp at h2;omega
  repeat(refine s_ ?_;simp[hw,zd])
  refine Qs _ ih rfl (by simp) ?_ (by simp) (by simp);simp
 have z6:j=ls.length:=by simp at za;omega
 subst z6;clear ih;obtain⟨n,hn⟩:∃n,(Oa ls).length=n:=⟨_,rfl⟩
 rw[Xn,hn];rcases Nat.eq_zero_or_pos n with h0|h0
 ·subst h0;repeat(refine s_ ?_;simp)
  refine Q0 rfl rfl (c0q []) rfl ?_;rintro r H' ⟨rfl,rfl⟩;simp;repeat(refine s_ ?_;simp)
  refine Q5 6 70 1 rfl ?_;simp;refine Qi (Qc (sl':=[(6,.sl 0 1 0 (Oa (ls.take 0)).length),(25,.list (ls.map LP)),(26,.i ls.length),(27,.i 0)]) ?_ (by simp[S1]));refine Qj (F:=λ(u:Nat×Nat×List AObj)=>⟨[(6,.sl u.2.1 1 0 (Oa (ls.take u.1)).length),(25,.list (ls.map LP)),(26,.i ls.length),(27,.i u.1)],u.2.2⟩)
   (λu=>u.1<=ls.length/\u.2.2[u.2.1]?=some (.arr 70 1 ((Oa (ls.take u.1)).map encP))) (λu=>ls.length - u.1) ?_ (0,0,[.arr 70 1 []]) ⟨by simp,by simp[S1]⟩
  rintro⟨j,q,H2⟩ ⟨hj,g1⟩ ih;simp only at hj g1 ih |-;repeat(refine s_ ?_;simp)
  refine Qa rfl (λz8=>?_) (λza=>?_)
  ·have z1:j<ls.length:=by simpa using z8
   have hw:=wz j (by omega);have zc:=w0c ls (j+1);have hs:=Ho ls j z1;have z7:(Oa (ls.take (j+1))).length=(Oa (ls.take j)).length+ls[j].length:=by rw[hs,yP]
   have zb:=λ(q':Nat) (H':List AObj) (h:H'[q']?=some (.arr 70 1 ((Oa (ls.take j)++ls[j]).map encP)))=>ih (j+1,q',H') ⟨by simp;omega,by rw[hs];exact h⟩ (by simp;omega);clear ih;simp only[hs]at zb;rw[z7]at zc;clear hs z7;generalize Oa (ls.take j)=acc at *
   repeat(refine s_ ?_;simp[z1])
   refine apS T87 T70 ?_;simp[Qb g1,Qh g1,g1];refine⟨by simp[W1,Qb g1,Qh g1,g1]<;>omega,?_⟩;repeat(refine s_ ?_;simp[hw])
   exact Qc (sl':=[(6,.sl H2.length 1 0 (acc.length+ls[j].length)),(25,.list (ls.map LP)),(26,.i ls.length),(27,.i (j+1:Nat))]) (by
    have:=zb H2.length (H2.set q .dead++[.arr 70 1 ((acc++ls[j]).map encP)]) (by rw[zO (by simp)];simp);simpa using this) (by simp)
  have z6:j=ls.length:=by simp at za;omega
  subst z6;rw[Xn]at g1;rw[yR];repeat(refine s_ ?_;simp[g1])
  rw[zZ (by simp)]
 repeat(refine s_ ?_;simp)
 refine Q0 rfl rfl (j1q [] n h0 (by omega)) rfl ?_;rintro r H' ⟨rfl,rfl⟩;simp;repeat(refine s_ ?_;simp)
 refine Qi (Qc (sl':=[(6,.sl 0 1 0 (Oa (ls.take 0)).length),(25,.list (ls.map LP)),(26,.i ls.length),(27,.i 0)]) ?_ (by simp[S1]));refine Qj (F:=λ(u:Nat×Nat×List AObj)=>⟨[(6,.sl u.2.1 1 0 (Oa (ls.take u.1)).length),(25,.list (ls.map LP)),(26,.i ls.length),(27,.i u.1)],u.2.2⟩)
  (λu=>u.1<=ls.length/\u.2.2[u.2.1]?=some (.arr 70 1 ((Oa (ls.take u.1)).map encP))) (λu=>ls.length - u.1) ?_ (0,0,[.arr 70 1 []]) ⟨by simp,by simp[S1]⟩
 rintro⟨j,q,H2⟩ ⟨hj,g1⟩ ih;simp only at hj g1 ih |-;repeat(refine s_ ?_;simp)
 refine Qa rfl (λz8=>?_) (λza=>?_)
 ·have z1:j<ls.length:=by simpa using z8
  have hw:=wz j (by omega);have zc:=w0c ls (j+1);have hs:=Ho ls j z1;have z7:(Oa (ls.take (j+1))).length=(Oa (ls.take j)).length+ls[j].length:=by rw[hs,yP]
  have zb:=λ(q':Nat) (H':List AObj) (h:H'[q']?=some (.arr 70 1 ((Oa (ls.take j)++ls[j]).map encP)))=>ih (j+1,q',H') ⟨by simp;omega,by rw[hs];exact h⟩ (by simp;omega);clear ih;simp only[hs]at zb;rw[z7]at zc;clear hs z7;generalize Oa (ls.take j)=acc at *
  repeat(refine s_ ?_;simp[z1])
  refine apS T87 T70 ?_;simp[Qb g1,Qh g1,g1];refine⟨by simp[W1,Qb g1,Qh g1,g1]<;>omega,?_⟩;repeat(refine s_ ?_;simp[hw])
  exact Qc (sl':=[(6,.sl H2.length 1 0 (acc.length+ls[j].length)),(25,.list (ls.map LP)),(26,.i ls.length),(27,.i (j+1:Nat))]) (by
   have:=zb H2.length (H2.set q .dead++[.arr 70 1 ((acc++ls[j]).map encP)]) (by rw[zO (by simp)];simp);simpa using this) (by simp)
 have z6:j=ls.length:=by simp at za;omega
 subst z6;rw[Xn]at g1;rw[yR];repeat(refine s_ ?_;simp[g1])
 rw[zZ (by simp)]
end
section
open Go.Maps Go.RowKit
attribute [local irreducible] w06 Hq Wd Kw u1d
end
end Go.Abs
