/- Part Vl of the proof: steps on the way to the last part. No condition. -/
import Derived.Test.YtjmkolhkojgjpaaGreatDoorVk
import Derived.Test.YtjmkolhkojgjpaaGreatDoorVh
import Derived.Test.YtjmkolhkojgjpaaGreatDoorVi
import Derived.Test.YtjmkolhkojgjpaaGreatDoorVe
import Derived.Test.YtjmkolhkojgjpaaGreatDoorVj
import Derived.Test.YtjmkolhkojgjpaaGreatDoorVc
import Derived.Test.YtjmkolhkojgjpaaGreatDoorVd
import Derived.Test.YtjmkolhkojgjpaaGreatDoorVf
import Derived.Test.YtjmkolhkojgjpaaGreatDoorVg
import Derived.Test.YtjmkolhkojgjpaaGreatDoorVb
import Derived.Lay
import Derived.LaidSub
import Derived.Deep.DeepWitnessRowRef
import Derived.Test.YtjmkolhkojgjpaaGreatDoorCards
import Derived.Test.YtjmkolhkojgjpaaGreatDoorTie
import Derived.Lib.LaidTab
import Derived.Shelf.Vars
set_option linter.all false
open List renaming range->y_,take_of_length_le->zZ,drop->sK,drop_append_of_le_length->u7,getElem?_eq_none->xF,getElem?_eq_getElem->zP,getD->yV,length_set->wI,mem_or_eq_of_mem_set->wU,mem_set->sB,getElem?_set_ne->zH,replicate->yH,eq_of_mem_replicate->vF,take->sw,take_succ_eq_append_getElem->zY,length_map->yL,length_filter_le->xN,mem_map->zU,getElem_eq_iff->yI,getElem?_append_right->zO,map_map->vV,map_set->uE,getElem?_replicate->vM,getElem_mem->zT,getElem?_set_self->zS,map_cons->xR,map_nil->wT
open Nat renaming zero_le->xP,le_refl->zW,le_trans->yW,lt_succ_self->sf
open Option renaming bind_some->wL
open Bool renaming and_eq_true->yJ
set_option maxHeartbeats 16000000
set_option linter.unusedSimpArgs false
set_option maxRecDepth 100000
open Go.Proofs.Tryz
namespace Go.Abs
section
open Go Go.Proofs Go.Maps Go.RowKit
attribute [local irreducible] V0 q0m k0y Ab El Dq w16
end
section
open Go Go.Proofs Go.Maps Go.RowKit
def exT:Aut:=⟨1,[false,true],[⟨0,0,d2x⟩,⟨0,1,u1y⟩]⟩
def Sa:Aut:=⟨1,[false,true],[⟨0,0,f2c⟩,⟨0,1,u1y⟩,⟨1,0,f2c⟩,⟨1,1,u1y⟩]⟩
def xtQ:List (List Int):=[[0],[0,1]]
def v2z:Wd exT=0:=by decide+kernel
def w22:(Xu exT.types (onA exT)).1=0/\(Xu exT.types (onA exT)).2=xrC:=by decide+kernel
def z2g:Jt exT xrC=some xtQ:=by decide+kernel
def y2j:Ux exT xrC xtQ=Sa:=by kernel_rfl
def c1k:V3 Sa=false:=by decide+kernel
def c0b:Ed exT=(0,Sa):=c1u v2z w22 z2g y2j c1k
def v2a:Tl Sa (W3 Sa)=[]:=List.isEmpty_iff.1 (by decide+kernel)
def j2x:Du Sa=(0,Sa):=by rw[Du,v2a];rfl
def g1h:Q4 Sa=Sa:=by kernel_rfl
def y2v:Hn Sa=false:=by decide+kernel
def c1o:Ab exT=(0,Sa):=by rw[Ab,c0b,if_neg (by simp)];simp only[j2x];rw[if_neg (by simp),g1h,y2v];rfl
def c13:Wd Sa=0:=by decide+kernel
def k1p:(Xu Sa.types (onA Sa)).1=0/\(Xu Sa.types (onA Sa)).2=xrC:=by decide+kernel
def k12:Jt Sa xrC=some xqQ:=by decide+kernel
def d1c:Ux Sa xrC xqQ=Sa:=by kernel_rfl
def z2j:Ed Sa=(0,Sa):=c1u c13 k1p k12 d1c c1k
def c12:OkA exT:=(Yh _).1 v2z
def k25:OkA Sa:=(Yh _).1 c13
def d05:El exT Sa=0:=Tf.2 ⟨c12,k25,rfl⟩
def v2d:R8 exT Sa=0:=(S5 d05).2 ⟨by rw[c0b],by rw[z2j]⟩
def k2s:Vz exT Sa=(([],false),0):=by
 rcases Na d05 v2d with⟨w,_,h⟩|⟨h,_⟩
 ·have:=q05 h;rw[(Ki c12 c1o).2.2.2.1 w h.okw]at this;exact absurd rfl this
 exact h
end
section
open Go Go.Proofs Go.Maps Go.RowKit
def v0o(lo hi:Int):PC prog 39 [.i lo,.i hi] (λr=>r=encP [[⟨lo,hi⟩]]):=by refine pcB func39 results39 ntmps39 ?_;simp only[Qe];refine Rj (Rp tOk rfl ?_);simp;refine Rj (Rp tOk rfl ?_);simp;refine Iz 1 (e:=144) (c:=2) (xs:=[encIv ⟨lo,hi⟩]) rfl 2 (o0:= .va 145 1 [.sl 1 2 0 1]) rfl (by decide) rfl ?_;simp[AObj.fz,AV.fz];refine Oc 2 rfl (by simp[AV.cells,AV.pure]) ?_;simp;refine Wn 2 (e:=145) (c:=1) (xs:=[encL [⟨lo,hi⟩]]) rfl 0 rfl ?_;simp;repeat(refine s_ ?_;simp)
attribute [local irreducible] Ed Ab Vz El V0
def w1q:PC prog 12 [] (λr=>r= .bool true):=by
 refine pcB func12 results12 ntmps12 ?_;simp only[Qe];have z1:y_ 2=[0,1]:=rfl;have cD:=Tx exT;have cM:=Ou exT;have cS:=Ff exT Sa;rw[c0b]at cD;rw[c1o]at cM;rw[k2s]at cS;repeat(refine s_ ?_;simp[z1])
 refine pcL (v0o (-1099511627776) 1099511627776) ?_;simp[z1];refine pcL (v0o 5 1099511627776) ?_;simp[z1];refine Qp (sl':=[(0,.bool false),(1,.vptr 2 0)]) ?_ (by simp);refine Wn 0 (e:=4) (c:=1) (xs:=[.bool false,.bool true]) rfl 2 rfl ?_;simp;refine Wn 1 (e:=73) (c:=3) (xs:=exT.mv.map encMv) rfl 2 rfl ?_;have z6:exT.mv.length=2:=rfl;simp[z6];rw[zZ (by simp[z6])];have e0:([AV.int .i64 1,AV.list [.bool false,.bool true],AV.list (exT.mv.map encMv)]:List AV)=Ql exT:=rfl;rw[e0];have h1:Sa.fin.length=2:=rfl;have h2:Sa.mv.length=4:=rfl;have z7:IntKind.i64.wrap 0=0:=by decide
 generalize exT=a at *;generalize Sa=d at *;simp only[encA]at cD cM cS
 repeat(refine s_ ?_;simp)
 refine pcL (cD) ?_;simp;repeat(refine s_ ?_;simp)
 refine pcL (cM) ?_;simp;repeat(refine s_ ?_;simp)
 refine pcL (cS) ?_;simp[q1x];refine Qp (sl':=[(0,.bool false),(2,.vptr 3 0),(3,.i 0),(4,.vptr 4 0),(5,.i 0),(6,LSy []),(7,.bool false),(8,.i 0)]) ?_ (by simp);repeat(refine s_ ?_;simp[h1,h2,z7])
def Nw(a b:Aut):PC prog 13 [encA a,encA b] (λr=>r= .bool (V0 a && V0 b && decide (El a b=0))):=by
 refine pcB func13 results13 ntmps13 ?_;simp only[Qe];have c1:=z1w a;have c2:=z1w b;have c3:=f1q a b;simp only[encA]at c1 c2 c3 |-;repeat(refine s_ ?_;simp)
 cases h1:V0 a
 ·rw[h1]at c1;refine pcL (c1) ?_;simp;refine Wg rfl rfl ?_;simp;refine Wg rfl rfl ?_;simp;repeat(refine s_ ?_;simp)
 rw[h1]at c1;refine pcL (c1) ?_;simp;cases h2:V0 b
 ·rw[h2]at c2;refine pcL (c2) ?_;simp;refine Wg rfl rfl ?_;simp;repeat(refine s_ ?_;simp)
 rw[h2]at c2;refine pcL (c2) ?_;simp;refine pcL (c3) ?_;simp;repeat(refine s_ ?_;simp)
 rw[Bool.eq_iff_iff];simp
end
section
open Go Go.Proofs Go.Maps Go.RowKit
structure QS (xs:List Int) (off L:Nat) (O:List Int) (n:Nat):Prop where
 len:off+L=xs.length
 eq:xs.drop off=O.drop n
 le:off<=n
def QS.pos{xs:List Int}{off L:Nat}{O:List Int}{n:Nat}(h:QS xs off L O n)(hn:n<=O.length):L=O.length - n:=by have:=congrArg List.length h.eq;have:=h.len;simp at *;omega
def QS.head{xs:List Int}{off L:Nat}{O:List Int}{n:Nat}(h:QS xs off L O n)(hn:n<O.length):xs[off]?=some O[n]:=by have:=congrArg (λl=>l[0]?) h.eq;simpa[List.getElem?_drop,hn]using this
def QS.tail{xs:List Int}{off L:Nat}{O:List Int}{n:Nat}(h:QS xs off L O n)(hn:n<O.length):QS xs (off+1) (L - 1) O (n+1):=by have h1:=h.pos (by omega);have h2:=h.len;refine⟨by omega,?_,by have:=h.le;omega⟩;have:=congrArg (sK 1) h.eq;simpa[List.drop_drop,Nat.add_comm]using this
def QS.add{xs:List Int}{off L:Nat}{O:List Int}{n:Nat}(h:QS xs off L O n)(hn:n<=O.length)(t:Int):QS (xs++[t]) off (L+1) (O++[t]) n:=by have h2:=h.len;refine⟨by simp;omega,?_,h.le⟩;rw[u7 (by omega),u7 hn,h.eq]
def QS.cut{xs:List Int}{off L:Nat}{O:List Int}{n:Nat}(h:QS xs off L O n)(hn:n<=O.length)(t:Int):QS (xs.drop off++[t]) 0 (L+1) (O++[t]) n:=by have h2:=h.len;refine⟨by simp;omega,?_,xP _⟩;rw[u7 hn,h.eq];rfl
end
section
def y2d(r:(List Int×Bool)×Int):AV:= .tup [LI r.1.1,.bool r.1.2,.i r.2]
def Ie:∀(es fs:List (Int×Int)) (st:List Int×List Int),W7 (es++fs) st=(W7 es st).bind (W7 fs)
 |[],_,_=>rfl
 |e::es,fs,st=>by
  rw[List.cons_append,W7,W7];cases h:Ew st e with
  |none=>rfl
  |some st'=>simp only[wL];exact Ie es fs st'
def Kl(st:List Int×List Int)(e:Int×Int):W7 [e] st=Ew st e:=by rw[W7];cases Ew st e<;>rfl
def w1a{chk:Int->Int->Bool}{ps:Int->Int->List (Int×Int)}{n:Nat}{st:List Int×List Int}(h:st.2.length<=n):∀f,q0p chk ps f n st=some st.1
 |0=>rfl
 |f+1=>by rw[q0p,xF h]
def q1o{chk:Int->Int->Bool}{ps:Int->Int->List (Int×Int)}{n:Nat}{st:List Int×List Int}(h:n<st.2.length)(f:Nat):q0p chk ps (f+1) n st=if chk st.2[n] (fAt st.1 st.2[n])then(W7 (ps st.2[n] (fAt st.1 st.2[n])) st).bind (q0p chk ps f (n+1))else none:=by rw[q0p,zP h]
def IsoI.len2{a b:Aut}{st:List Int×List Int}(h:IsoI a b st):st.2.length<=a.fin.length:=by have:=h.nd.length_le_of_subset (l₂:=Wj a.fin.length) λc hc=>Wo.2 ((h.mem c).1 hc).1;simpa[Wj]using this
def Xv{f:List Int}{s:Int}(h0:0<=s)(h1:s.toNat<f.length):f[s.toNat]?=some (fAt f s):=by unfold fAt;simp[yV,h1]
structure BkS (m:Nat) (to bk:List Int):Prop where
 len:bk.length=m
 iff:∀q:Int,0<=q->q<m->(0<=fAt bk q↔q∈to)
def BkS.set{m:Nat}{to bk:List Int}(h:BkS m to bk){s t:Int}(s0:0<=s)(sl:s.toNat<to.length)(hs:fAt to s<0)(t0:0<=t)(tm:t<m):BkS m (to.set s.toNat t) (bk.set t.toNat s):=by
 refine⟨by rw[wI];exact h.len,λq q0 qm=>?_⟩;rw[z0w t0 q0 (by have:=h.len;omega)];have hm:q∈to.set s.toNat t↔q=t\/q∈to:=by
  constructor
  ·intro k;rcases wU k with k|k
   ·exact .inr k
   exact .inl k
  rintro(rfl|k)
  ·exact sB sl q
  obtain⟨i,hi,e⟩:=List.getElem_of_mem k;have z1:s.toNat≠i:=λe2=>by have:=Xv s0 sl;rw[e2,zP hi,e]at this;have:=Option.some.inj this;omega
  exact List.mem_iff_getElem?.2 ⟨i,by rw[zH z1,zP hi,e]⟩
 rw[hm];by_cases e:q=t
 ·rw[if_pos e];exact⟨λ_=> .inl e,λ_=>s0⟩
 rw[if_neg e,h.iff q q0 qm];exact⟨.inr,λk=>k.resolve_left e⟩
def y2o(n:Nat){s:Int}(h0:0<=s):fAt ((yH n (-1:Int)).set 0 0) s=if s=0/\0<n then 0 else -1:=by
 unfold fAt;by_cases hs:s=0
 ·subst hs;cases n with
  |zero=>rfl
  |succ n=>rw[if_pos ⟨rfl,by omega⟩];rfl
 rw[if_neg (λk=>hs k.1)];simp only[yV];rw[zH (by omega)];by_cases hn:s.toNat<n
 ·rw[zP (by simpa using hn)];simp
 rw[xF (by simp;omega)];rfl
def BkS.start{n m:Nat}(hn:0<n)(hm:0<m):BkS m ((yH n (-1)).set 0 0) ((yH m (-1)).set 0 0):=by
 refine⟨by simp,λq q0 qm=>?_⟩;rw[y2o m q0];have:q∈(yH n (-1:Int)).set 0 0↔q=0:=by
  constructor
  ·intro k;rcases wU k with k|k
   ·have:=vF k;omega
   exact k
  rintro rfl;exact sB (by simpa using hn) 0
 rw[this];by_cases hq:q=0
 ·rw[if_pos ⟨hq,hm⟩];exact⟨λ_=>hq,λ_=>Int.le_refl _⟩
 rw[if_neg (λk=>hq k.1)];exact⟨λk=>by omega,λk=>absurd k hq⟩
def c0x{st:List Int×List Int}{e:Int×Int}(h:fAt st.1 e.1=e.2):Ew st e=some st:=if_pos h
def g1e{st:List Int×List Int}{e:Int×Int}(h0:0<=e.2)(h1:fAt st.1 e.1<0)(h2:e.2∉st.1):Ew st e=some (st.1.set e.1.toNat e.2,st.2++[e.1]):=by unfold Ew;rw[if_neg (by omega),if_neg (λk=>k.elim (λk=>by omega) h2)]
def y0u{st:List Int×List Int}{e:Int×Int}(h:fAt st.1 e.1≠e.2)(h1:¬(fAt st.1 e.1<0/\e.2∉st.1)):Ew st e=none:=by
 unfold Ew;rw[if_neg h,if_pos];by_cases k:0<=fAt st.1 e.1
 ·exact .inl k
 refine .inr (Decidable.byContradiction λk2=>h1 ⟨by omega,k2⟩)
section
variable {a b:Aut} {p q:Int} {x:Sy} {ls:List Sy} {st:List Int×List Int} {K:List Int×List Int->Option (List Int)}
end
end
section
open Go Go.Proofs Go.Maps Go.RowKit
def x29:(y_ 257).all (λn=>bits .and .u64 n 4294967295==(n:Int))=true:=by kernel_rfl
def z0l(n:Nat)(h:n<=256):bits .and .u64 n 4294967295=n:=by have:=List.all_eq_true.1 x29 n (List.mem_range.2 (by omega));simpa using this
def z0a(n:Nat)(h:n<=256):(n:Int).fdiv (2 ^ min 32 IntKind.u64.bits)=0:=by rw[show min 32 IntKind.u64.bits=32 from rfl,Int.fdiv_eq_ediv_of_nonneg _ (by decide)];omega
def x03(n:Nat)(h:n<=256):IntKind.u64.wrap (n:Int)=n:=by simp[IntKind.wrap,IntKind.bits,IntKind.signed];omega
def g1f(n:Nat)(hn:n<=256):PC prog 202 [.int .u64 1,.int .u64 n] (λr=>r= .tup [.int .u64 0,.int .u64 n]):=by have a1:=z0l n hn;have a2:bits .and .u64 1 4294967295=1:=z0l 1 (by decide);have a3:=z0a n hn;have a4:(1:Int).fdiv (2 ^ min 32 IntKind.u64.bits)=0:=z0a 1 (by decide);have a5:=x03 n hn;have a6:IntKind.u64.wrap 0=0:=x03 0 (by decide);have a7:(0:Int).fdiv (2 ^ min 32 IntKind.u64.bits)=0:=z0a 0 (by decide);have a8:bits .and .u64 0 4294967295=0:=z0l 0 (by decide);refine pcB func202 results202 ntmps202 ?_;simp only[Qe];repeat(refine s_ ?_;simp[a1,a2,a3,a4,a5,a6,a7,a8])
def u2m(n:Nat)(hn:n<=256):PC prog 137 [.int .u64 1,.int .u64 n] (λr=>r= .tup [.int .u64 0,.int .u64 n]):=by
 refine pcB func137 results137 ntmps137 ?_;simp only[Qe];repeat(refine s_ ?_;simp)
 refine Qa rfl (λh=>by cases h) (λ_=>?_);repeat(refine s_ ?_;simp)
 refine pcL (g1f n hn) ?_;simp;repeat(refine s_ ?_;simp)
attribute [local simp] c2d
def N9(x:Int)(n:Nat)(h0:0<n)(hn:n<=256):FR prog 74 [LI [x],.i n] 3 1 (λr=>r=(yH n x).map AV.i):=by
 have a5:=x03 n hn;have a6:IntKind.u64.wrap 1=1:=x03 1 (by decide);have z8:IntKind.i64.wrap (n:Int)=n:=wrap_i64 _ (by omega) (by omega);refine q08 tOk func74 rfl results74 rfl (by simp[ntmps74]) ?_;rw[ntmps74];simp only[Qe];repeat(refine s_ ?_;simp)
 refine Qa rfl (λh=>by simp at h;omega) (λ_=>?_);repeat(refine s_ ?_;simp[a5,a6])
 refine pcL (u2m n hn) ?_;simp;repeat(refine s_ ?_;simp)
 refine Qa rfl (λh=>by simp at h;omega) (λ_=>?_);repeat(refine s_ ?_;simp[z8])
 refine Er tOk rfl rfl rfl T47 rfl T3 rfl rfl rfl (n:=n) (by simp;omega) (by unfold maxLen;omega) (.i 0) rfl ?_;simp;repeat(refine s_ ?_;simp)
 have z1:sw n [AV.i x]=[AV.i x]:=zZ (by simp;omega);have z7:Nat.min 1 n=1:=Nat.min_eq_left h0;refine K7 tOk rfl rfl T47 rfl T3 rfl (ys:=[.i x]) rfl rfl rfl (by simp) (by rw[z1];simp[AV.cells,AV.leaf]) rfl ?_;simp[z1,z7];repeat(refine s_ ?_;simp)
 refine Qi (Qc (sl':=[(4,.nils),(7,.sl 0 1 0 n),(8,.i (1:Nat))]) ?_ (by simp));have hst:AV.i x::yH (n - 1) (AV.i 0)=yH 1 (AV.i x)++yH (n - 1) (AV.i 0):=rfl;rw[hst];refine Qj (P:=prog) (F:=λ(c:Nat)=>⟨[(4,.nils),(7,.sl 0 1 0 n),(8,.i c)],[.arr 3 1 (yH c (AV.i x)++yH (n - c) (AV.i 0))]⟩)
  (λc=>1<=c/\c<=n) (λc=>n - c) ?_ 1 ⟨zW _,h0⟩
 clear hst z1 z7;rintro c ⟨za,zb⟩ ih;try simp only at ih |-
 repeat(refine s_ ?_;simp)
 refine Qa rfl (λzc=>?_) (λzd=>?_)
 ·have z6:c<n:=by simpa using zc
  obtain⟨m,hm⟩:∃m,Nat.min c (n - c)=m:=⟨_,rfl⟩
  have zi:1<=m/\m<=c/\m<=n - c:=by rw[<-hm];exact⟨Nat.le_min.2 ⟨za,by omega⟩,Nat.min_le_left _ _,Nat.min_le_right _ _⟩
  have hw:IntKind.i64.wrap ((c:Int)+m)=c+m:=wrap_i64 _ (by omega) (by omega);repeat(refine s_ ?_;simp)
  refine Qn tOk mixed [7] (.val 0 (.val 1 (.val 2 (.val 3 (.val 4 (.val 5 (.val 6 (.one 7 (.val 8 (.val 9 (.done))))))))))) rfl (by kernel_rfl) ?_;simp[z6,zb];refine K7 (id:=0) (lo:=c) (len:=n - c) (ys:=yH c (.i x)) (e':=3) (xs:=yH c (AV.i x)++yH (n - c) (AV.i 0)) tOk rfl rfl T47 rfl T3 rfl rfl (by simp[Se]) rfl (by simp) ?_ rfl ?_
  ·intro y hy;have:=vF (List.mem_of_mem_take hy);subst this;simp[AV.cells,AV.leaf]
  simp;have ze:min (n - c) c=m:=by rw[Nat.min_comm];exact hm
  have zf:sK (c+m) (yH c (AV.i x)++yH (n - c) (AV.i 0))=yH (n - (c+m)) (AV.i 0):=by rw[List.drop_append];simp;omega
  have zg:=ih (c+m) ⟨by omega,by omega⟩ (by omega);rw[hm,ze,hw,zf];refine Qc (sl':=[(4,.nils),(7,.sl 0 1 0 n),(8,.i (c+m:Nat))]) zg ?_;simp
 have zh:c=n:=by simp at zd;omega
 subst zh;repeat(refine s_ ?_;simp)
end
section
open Go Go.Proofs Go.Maps Go.RowKit
def c0n{α:Type}{a b:List α}{j:Nat}(h1:j<a.length)(h2:j<b.length)(h:a.take j=b.take j)(e:a[j]=b[j]):a.take (j+1)=b.take (j+1):=by rw[zY h1,zY h2,h,e]
def j03(a b:List Iv):PC prog 141 [encL a,encL b] (λr=>r= .bool (decide (a=b))):=by
 refine pcB func141 results141 ntmps141 ?_;simp only[Qe];refine Tw 0 rfl (λhlen=>?_);rw[yL]at hlen;repeat(refine s_ ?_;simp)
 refine Qa rfl (λh=>?_) (λh1=>?_)
 ·repeat(refine s_ ?_;simp)
  rintro rfl;simp at h
 have hl:a.length=b.length:=by simp at h1;omega
 repeat(refine s_ ?_;simp)
 refine Qu a.length (λj=>a.take j=b.take j) (λj=>[(0,encL a),(1,encL b),(12,.i a.length),(13,.i j)]) (λ_=>[]) rfl (by simp) (by simp) (by simp) (by simp) (by simp) ?_;intro j hj hI ih;repeat(refine s_ ?_;simp)
 refine Qa rfl (λz8=>?_) (λza=>?_)
 ·have z1:j<a.length:=by simpa using z8
  have z6:j<b.length:=by omega
  repeat(refine s_ ?_;simp)
  refine Qn tOk mixed [] (.val 0 (.val 1 (.val 2 (.val 3 (.val 4 (.val 5 (.val 6 (.val 7 (.val 8 (.done)))))))))) rfl (by kernel_rfl) ?_;simp[z1,z6,c1f];refine Qa rfl (λh=>?_) (λh=>?_)
  ·repeat(refine s_ ?_;simp)
   rintro rfl;simp at h
  repeat(refine s_ ?_;simp)
  have he:a[j]=b[j]:=by
   have h2:a[j].lo=b[j].lo/\a[j].hi=b[j].hi:=by simpa using h
   cases ha:a[j];cases hb:b[j];rw[ha,hb]at h2;simp only at h2;rw[h2.1,h2.2]
  refine Qs _ (ih z1 (c0n z1 z6 hI he)) rfl (by simp) ?_ (by simp) (by simp);simp;exact wrap_i64 _ (by omega) (by omega)
 have z7:j=a.length:=by simp at za;omega
 subst z7;repeat(refine s_ ?_;simp)
 rw[zZ (zW _),zZ (by omega)]at hI;exact hI
def u06(a b:Prd):PC prog 140 [.list (a.map encL),.list (b.map encL),.fn (.func 141) [] []] (λr=>r= .bool (decide (a=b))):=by
 refine pcB func140 results140 ntmps140 ?_;simp only[Qe];refine Tw 0 rfl (λhlen=>?_);rw[yL]at hlen;repeat(refine s_ ?_;simp)
 refine Qa rfl (λh=>?_) (λh1=>?_)
 ·repeat(refine s_ ?_;simp)
  rintro rfl;simp at h
 have hl:a.length=b.length:=by simp at h1;omega
 repeat(refine s_ ?_;simp)
 refine Qu a.length (λj=>a.take j=b.take j) (λj=>[(0,.list (a.map encL)),(1,.list (b.map encL)),(2,.fn (.func 141) [] []),(15,.list (a.map encL)),(16,.i a.length),(17,.i j)]) (λ_=>[]) rfl (by simp) (by simp) (by simp) (by simp) (by simp) ?_;intro j hj hI ih;repeat(refine s_ ?_;simp)
 refine Qa rfl (λz8=>?_) (λza=>?_)
 ·have z1:j<a.length:=by simpa using z8
  have z6:j<b.length:=by omega
  have hw:=wz j (by omega);repeat(refine s_ ?_;simp[z1,z6])
  refine pcL (j03 a[j] b[j]) ?_;simp;repeat(refine s_ ?_;simp)
  refine Qa rfl (λh=>?_) (λh=>?_)
  ·repeat(refine s_ ?_;simp)
   rintro rfl;simp at h
  have he:a[j]=b[j]:=by simpa using h
  repeat(refine s_ ?_;simp[hw])
  refine Qs _ (ih z1 (c0n z1 z6 hI he)) rfl (by simp) ?_ (by simp) (by simp);simp
 have z7:j=a.length:=by simp at za;omega
 subst z7;repeat(refine s_ ?_;simp)
 rw[zZ (zW _),zZ (by omega)]at hI;exact hI
def c0f{a:Aut}(h:OkA a)(s:Int)(i:Nat):(Qw ((Wa a s).map (·.on)) i).length<=1000000:=by
 have h1:((Wa a s).map (·.on)).length<=2048:=by rw[yL];exact yW (xN _ _) h.mvs
 have h2:∀p∈(Wa a s).map (·.on),PCk a.types.toNat p:=λp hp=>by obtain⟨m,hm,rfl⟩:=zU.1 hp;exact(h.mv m (Wz.1 hm).1).on
 have:=Uz h2 i;omega
def v1y(a:Aut)(s:Int):Uw a.types.toNat ((Wa a s).map (·.on))=j0v a s:=rfl
def x2d{a:Aut}{k:Nat}(h:k<a.fin.length):(Tj a)[k]?=some (.list ((Wa a k).map encMv))/\(Tj a).length=a.fin.length:=by unfold Tj Yk;simp[h]
attribute [local irreducible] Wa Tj j0v Qw Uw
def z03(a:Aut)(ha:OkA a)(s:Int)(hs:inS a s):PC prog 138 [Rc a,.i s] (λr=>r=encP (j0v a s)):=by
 have zb:∀p∈(Wa a s).map (·.on),PWf a.types.toNat p:=λp hp=>by obtain⟨m,hm,rfl⟩:=zU.1 hp;exact ha.wfA.on m (Wz.1 hm).1
 have zc:=c0f ha s;have hlen:(Wa a s).length<=2048:=yW (by unfold Wa;exact xN _ _) ha.mvs;have zd:=v1y a s;have hT:=ha.types;obtain⟨k,rfl⟩:∃k:Nat,s=k:=⟨s.toNat,by have:=hs.1;omega⟩
 have hk:k<a.fin.length:=by have:=hs.2;omega
 obtain⟨hm,ze⟩:=x2d hk;have zf:∀hh,(Tj a)[k]'hh= .list ((Wa a k).map encMv):=λhh=>(yI hh).2 hm;refine pcB func138 results138 ntmps138 ?_;simp only[Qe];simp only[Rc,Q3,encP];generalize Wa a k=ms at *
 repeat(refine s_ ?_;simp[hm,ze,hk,zf])
 refine Qp (sl':=[(1,.i k),(2,.vptr 0 0),(4,.vptr 1 0),(5,.nils),(12,.list (ms.map encMv)),(13,.i ms.length),(14,.i (0:Nat))]) ?_ (by simp);refine Q5 5 70 1 rfl ?_;simp;have hz:((ms.take 0).map λm=>encP m.on)=[]:=by simp
 refine Qi (Qc (sl':=[(1,.i k),(2,.vptr 0 0),(4,.vptr 1 0),(5,.sl 2 1 0 0),(12,.list (ms.map encMv)),(13,.i ms.length),(14,.i (0:Nat))]) ?_ (by simp));refine Qj (P:=prog) (F:=λ(u:Nat×Nat×List AObj)=>⟨[(1,.i k),(2,.vptr 0 0),(4,.vptr 1 0),(5,.sl u.2.1 1 0 u.1),(12,.list (ms.map encMv)),(13,.i ms.length),(14,.i u.1)],u.2.2⟩)
  (λu=>u.1<=ms.length/\u.2.2[0]?=some (.vars (Q3 a))/\u.2.2[1]?=some (.vars [.nils])/\u.2.2[u.2.1]?=some (.arr 70 1 ((ms.take u.1).map λm=>encP m.on))/\1<u.2.1) (λu=>ms.length - u.1) ?_ (0,2,_) ⟨xP _,rfl,rfl,rfl,sf 1⟩
 rintro⟨j,q,H⟩ ⟨hj,h0,h1,hq,zg⟩ ih;simp only[Q3]at hj h0 h1 hq zg ih |-;repeat(refine s_ ?_;simp)
 refine Qa rfl (λzh=>?_) (λzi=>?_)
 ·have z1:j<ms.length:=by simpa using zh
  have hw:=wz j (by omega);have zj:(ms.take (j+1)).map (λm=>encP m.on)=(ms.take j).map (λm=>encP m.on)++[encP ms[j].on]:=by rw[zY z1,List.map_append];rfl
  have z6:((ms.take j).map λm=>encP m.on).length=j:=by simp;omega
  have z7:=λq' H'=>ih (j+1,q',H');simp only[zj]at z7;have z8:(ms.map encMv)[j]?=some (encMv ms[j]):=by simp[z1]
  have za:∀hh,(ms.map encMv)[j]'hh=encMv ms[j]:=λhh=>by simp
  generalize (ms.take j).map (λm=>encP m.on)=xs at *
  generalize ms[j]=m at *;simp only[encMv]at z8 za
  repeat(refine s_ ?_;simp[z8,za,z1])
  refine apS T87 T70 ?_;simp[Qb hq,Qh hq,hq,z6];refine⟨by simp[W1,Qb hq,Qh hq,hq,z6]<;>omega,?_⟩;repeat(refine s_ ?_;simp[hw])
  refine Qc (sl':=[(1,.i k),(2,.vptr 0 0),(4,.vptr 1 0),(5,.sl (H.length+2) 1 0 (j+1)),(12,.list (ms.map encMv)),(13,.i ms.length),(14,.i (j+1:Nat))]) ?_ (by simp);refine z7 (H.length+2) _ ⟨by omega,Qb (Qd (by omega) h0 _) _,Qb (Qd (by omega) h1 _) _,?_,by omega⟩ (by omega);rw[zO (by simp)];simp
 have zk:j=ms.length:=by simp at zi;omega
 subst zk;rw[List.take_length]at hq;have zl:(ms.map λm=>encP m.on)=(ms.map (·.on)).map encP:=by rw[vV];rfl
 rw[zl]at hq;refine Wu q hq ?_;simp[AV.fz];rw[zZ (by simp)];have cU:=Ms a.types.toNat (ms.map (·.on)) (by omega) zb (λi _=>zc i) (by simp;omega);rw[show((a.types.toNat:Nat):Int)=a.types by omega,zd]at cU;simp only[encP,LP,vV]at cU;have g0:=Qd (j:=q) (by omega) h0 .dead;have g1:=Qd (j:=q) (by omega) h1 .dead;generalize H.set q .dead=G at *
 have gA:∀y,(G.set 1 y)[1]?=some y:=λy=>Qg g1 y;repeat(refine s_ ?_;simp[g0])
 refine pcL (cU) ?_;simp[g1,gA];repeat(refine s_ ?_;simp[g1,gA])
def g1l(a b:Aut)(ha:OkA a)(hb:OkA b)(p q:Int)(hp:inS a p)(hq:inS b q):PC prog 75 [Rc a,Rc b,.i p,.i q] (λr=>r= .bool (decide (j0v a p=j0v b q))):=by
 have c1:=z03 a ha p hp;have c2:=z03 b hb q hq;have c3:=u06 (j0v a p) (j0v b q);refine pcB func75 results75 ntmps75 ?_;simp only[Qe];simp only[Rc,Q3,encP]at c1 c2 |-;repeat(refine s_ ?_;simp)
 refine Qn tOk mixed [] (.val 0 (.val 1 (.val 2 (.val 5 (.val 6 (.val 7 (.one 3 (.val 4 (.one 8 (.val 9 (.one 10 (.val 11 (.done))))))))))))) rfl (by kernel_rfl) ?_;simp;refine pcL (c1) ?_;simp;refine pcL (c2) ?_;simp;refine pcL (c3) ?_;simp;repeat(refine s_ ?_;simp)
end
section
open Go Go.Proofs Go.Maps Go.RowKit
attribute [local irreducible] Wa Tj
end
section
open Go Go.Proofs Go.Maps Go.RowKit
structure IzF (a b:Aut) (J K c6 q6 c7 q7:Nat) (to bk:List Int) (H:List AObj):Prop where
 h0:H[0]?=some (.vars [.i a.types,.list (a.fin.map .bool),.list (a.mv.map encMv)])
 h1:H[1]?=some (.vars [.i b.types,.list (b.fin.map .bool),.list (b.mv.map encMv)])
 h2:H[2]?=some (.vars [.nils])
 h3:H[3]?=some (.vars [.bool false])
 h4:H[4]?=some (.vars [.i 0])
 hJ:H[J]?=some (.vars [.i a.types,.list (a.fin.map .bool),.list (a.mv.map encMv),.list (Tj a)])
 hK:H[K]?=some (.vars [.i b.types,.list (b.fin.map .bool),.list (b.mv.map encMv),.list (Tj b)])
 hc6:H[c6]?=some (.vars [.sl q6 1 0 to.length])
 hc7:H[c7]?=some (.vars [.sl q7 1 0 bk.length])
 hq6:H[q6]?=some (.arr 3 1 (to.map AV.i))
 hq7:H[q7]?=some (.arr 3 1 (bk.map AV.i))
 bd:4<J/\4<K/\J<q6/\K<q6/\q6<c6/\c6<q7/\q7<c7
def IzF.keep{a b:Aut}{J K c6 q6 c7 q7:Nat}{to bk:List Int}{H X:List AObj}(h:IzF a b J K c6 q6 c7 q7 to bk H)(hk:∀i,i<=c7->∀x,H[i]?=some x->X[i]?=some x):IzF a b J K c6 q6 c7 q7 to bk X:=by have:=h.bd;exact⟨hk _ (by omega) _ h.h0,hk _ (by omega) _ h.h1,hk _ (by omega) _ h.h2,hk _ (by omega) _ h.h3,hk _ (by omega) _ h.h4,hk _ (by omega) _ h.hJ,hk _ (by omega) _ h.hK,hk _ (by omega) _ h.hc6,hk _ (by omega) _ h.hc7,hk _ (by omega) _ h.hq6,hk _ (by omega) _ h.hq7,h.bd⟩
def IzF.put{a b:Aut}{J K c6 q6 c7 q7:Nat}{to bk:List Int}{H:List AObj}(h:IzF a b J K c6 q6 c7 q7 to bk H){j:Nat}(hj:c7<j)(y:AObj):IzF a b J K c6 q6 c7 q7 to bk (H.set j y):=h.keep λi hi x hx=>Qd (by omega) hx y
def IzF.app{a b:Aut}{J K c6 q6 c7 q7:Nat}{to bk:List Int}{H:List AObj}(h:IzF a b J K c6 q6 c7 q7 to bk H)(E:List AObj):IzF a b J K c6 q6 c7 q7 to bk (H++E):=h.keep λi _ x hx=>Qb hx E
def IzF.upd{a b:Aut}{J K c6 q6 c7 q7:Nat}{to bk:List Int}{H:List AObj}(h:IzF a b J K c6 q6 c7 q7 to bk H)(to' bk':List Int)(h1:to'.length=to.length)(h2:bk'.length=bk.length):IzF a b J K c6 q6 c7 q7 to' bk' ((H.set q6 (.arr 3 1 (to'.map AV.i))).set q7 (.arr 3 1 (bk'.map AV.i))):=by
 have b:=h.bd;have f:∀ {i:Nat} {x:AObj},i≠q6->i≠q7->H[i]?=some x->((H.set q6 (.arr 3 1 (to'.map AV.i))).set q7 (.arr 3 1 (bk'.map AV.i)))[i]?=some x:=λk1 k2 hx=>Qd (Ne.symm k2) (Qd (Ne.symm k1) hx _) _;refine⟨f (by omega) (by omega) h.h0,f (by omega) (by omega) h.h1,f (by omega) (by omega) h.h2,f (by omega) (by omega) h.h3,f (by omega) (by omega) h.h4,f (by omega) (by omega) h.hJ,f (by omega) (by omega) h.hK,?_,?_,?_,?_,h.bd⟩
 ·rw[h1];exact f (by omega) (by omega) h.hc6
 ·rw[h2];exact f (by omega) (by omega) h.hc7
 ·exact Qd (by omega) (Qg h.hq6 _) _
 exact Qg (Qd (by omega) h.hq7 _) _
def IzR(a b:Aut)(J K c6 q6 c7 q7 c8 n:Nat)(st:List Int×List Int)(H:List AObj):Prop:=
 ∃bk q8 off L xs,IzF a b J K c6 q6 c7 q7 st.1 bk H/\BkS b.fin.length st.1 bk/\QS xs off L st.2 n/\H[c8]?=some (.vars [.sl q8 1 off L])/\H[q8]?=some (.arr 3 1 (xs.map AV.i))/\c7<q8
def IzR.app{a b:Aut}{J K c6 q6 c7 q7 c8 n:Nat}{st:List Int×List Int}{H:List AObj}(h:IzR a b J K c6 q6 c7 q7 c8 n st H)(E:List AObj):IzR a b J K c6 q6 c7 q7 c8 n st (H++E):=by obtain⟨bk,q8,off,L,xs,g1,g2,g3,g4,g5,g6⟩:=h;exact⟨bk,q8,off,L,xs,g1.app E,g2,g3,Qb g4 E,Qb g5 E,g6⟩
def IzR.put{a b:Aut}{J K c6 q6 c7 q7 c8 n:Nat}{st:List Int×List Int}{H:List AObj}(h:IzR a b J K c6 q6 c7 q7 c8 n st H){l:Nat}(hl:c8<l)(h7:c7<c8){y0:AObj}(h0:H[l]?=some y0)(hy:∀e c xs,y0≠ .arr e c xs)(y:AObj):IzR a b J K c6 q6 c7 q7 c8 n st (H.set l y):=by obtain⟨bk,q8,off,L,xs,g1,g2,g3,g4,g5,g6⟩:=h;refine⟨bk,q8,off,L,xs,g1.put (by omega) y,g2,g3,Qd (by omega) g4 y,Qd (λe=>?_) g5 y,g6⟩;subst e;rw[h0]at g5;exact hy _ _ _ (Option.some.inj g5)
structure IzP (a b:Aut) (st0 st:List Int×List Int) (es:List (Int×Int)):Prop where
 eq:W7 es st0=some st
 inv:IsoI a b st
 same:∀u,inS a u->0<=fAt st0.1 u->fAt st.1 u=fAt st0.1 u
 pre:∃r,st.2=st0.2++r
def IzP.start{a b:Aut}{st:List Int×List Int}(h:IsoI a b st):IzP a b st st []:=⟨rfl,h,λ_ _ _=>rfl,[],by simp⟩
def IzP.len{a b:Aut}{st0 st:List Int×List Int}{es:List (Int×Int)}(h:IzP a b st0 st es):st0.2.length<=st.2.length:=by obtain⟨r,hr⟩:=h.pre;rw[hr,List.length_append];omega
def IzP.next{a b:Aut}(ha:OkA a)(hb:OkA b){st0 st:List Int×List Int}{es:List (Int×Int)}(h:IzP a b st0 st es)(h0:IsoI a b st0){p:Int}(hp:p∈st0.2){x:Sy}(hx:Q8 a x){s t:Int}(hs:toL a p x=s)(ht:toL b (fAt st0.1 p) x=t)(s0:0<=s)(t0:0<=t):
  (Ew st (s,t)=none/\W7 (es++[(s,t)]) st0=none)\/∃st',Ew st (s,t)=some st'/\IzP a b st0 st' (es++[(s,t)]):=by
 obtain⟨r,hr⟩:=h.pre;have z1:=(h0.mem p).1 hp;have z7:p∈st.2:=by rw[hr];exact List.mem_append_left _ hp
 have hf:=h.same p z1.1 z1.2;rcases h.inv.one ha hb z7 hx hs (by rw[hf];exact ht) s0 t0 with⟨st',g1,g2,g3,⟨r2,g4⟩,g5⟩|⟨g1,_⟩
 ·refine .inr ⟨st',g1,⟨by rw[Ie,h.eq,wL,Kl,g1],g2,λu hu z6=>?_,r++r2,by rw[g4,hr,List.append_assoc]⟩⟩;have:=h.same u hu z6;rw[g3 u hu (by rw[this];exact z6),this]
 exact .inl ⟨g1,by rw[Ie,h.eq,wL,Kl,g1]⟩
def IzO(a b:Aut)(c8 n:Nat)(st0:List Int×List Int)(es:List (Int×Int))(H:List AObj):Prop:=∃st',IzP a b st0 st' es/\IzR a b 7 8 11 10 14 13 c8 n st' H
def w0a(a b:Aut)(p q:Int):psP a b p q=(Ww a b (p,q)).map (·.2):=rfl
def M0{es fs:List (Int×Int)}{st:List Int×List Int}(h:W7 es st=none):W7 (es++fs) st=none:=by rw[Ie,h];rfl
end
section
open Go Go.Proofs Go.Maps Go.RowKit
def w1c{a:Aut}(h:Wd a=0):u1d a=(Hq a,0):=if_pos h
attribute [local simp] T47 T35 T25
attribute [local irreducible] toL Wd Hq q0p W7 Ew fAt Ww Wa Tj j0v psP
def f0e(a b:Aut):PC prog 24 [encA a,encA b] (λr=>r=y2d (v1k a b)):=by
 refine pcB func24 results24 ntmps24 ?_;simp only[Qe];simp only[encA];obtain⟨R,hR⟩:∃R,v1k a b=R:=⟨_,rfl⟩
 rw[hR];unfold v1k at hR;have yo:IntKind.i64.wrap 1=1:=by decide
 have xk:IntKind.i64.wrap 2=2:=by decide
 repeat(refine s_ ?_;simp)
 refine Qp (sl':=[(2,.vptr 0 0),(3,.vptr 1 0),(4,.vptr 2 0),(5,.vptr 3 0),(6,.vptr 4 0),(24,.sl 5 3 0 2),(25,.i 2),(26,.i (0:Nat))]) ?_ (by simp);refine Qu 2 (λj=>(1<=j->Wd a=0)/\(2<=j->Wd b=0)) (λj=>[(2,.vptr 0 0),(3,.vptr 1 0),(4,.vptr 2 0),(5,.vptr 3 0),(6,.vptr 4 0),(24,.sl 5 3 0 2),(25,.i 2),(26,.i j)])
  (λ_=>[.vars (Ql a),.vars (Ql b),.vars [.nils],.vars [.bool false],.vars [.i 0],.arr 25 3 [encA a,encA b]]) rfl (by simp) (by simp) (by simp) (by simp) ⟨λh=>by omega,λh=>by omega⟩ ?_
 intro j hj hI ih;simp only[encA];repeat(refine s_ ?_;simp)
 refine Qa rfl (λy0=>?_) (λyc=>?_)
 ·have yy:j<2:=by simp at y0;omega
  obtain rfl|rfl:j=0\/j=1:=by omega
  ·repeat(refine s_ ?_;simp)
   refine pcL (Tg a) ?_;simp;repeat(refine s_ ?_;simp)
   refine Qa rfl (λh=>?_) (λh=>?_)
   ·rw[if_pos (by simpa using h)]at hR;rw[<-hR];repeat(refine s_ ?_;simp)
    rfl
   have h0:Wd a=0:=by simpa using h
   repeat(refine s_ ?_;simp)
   refine Qs _ (ih (by omega) ⟨λ_=>h0,λh=>by omega⟩) rfl (by simp) ?_ (by simp) (by simp);simp[yo]
  have y1:=hI.1 (by omega);repeat(refine s_ ?_;simp)
  refine pcL (Tg b) ?_;simp;repeat(refine s_ ?_;simp)
  refine Qa rfl (λh=>?_) (λh=>?_)
  ·rw[if_neg (λk=>k y1),if_pos (by simpa using h)]at hR;rw[<-hR];repeat(refine s_ ?_;simp)
   rfl
  have h0:Wd b=0:=by simpa using h
  repeat(refine s_ ?_;simp)
  refine Qs _ (ih (by omega) ⟨λ_=>y1,λ_=>h0⟩) rfl (by simp) ?_ (by simp) (by simp);simp[yo,xk]
 have x0:j=2:=by simp at yc;omega
 subst x0;have y1:=hI.1 (by omega);have x1:=hI.2 (by omega);clear hI ih;rw[if_neg (λk=>k y1),if_neg (λk=>k x1)]at hR;repeat(refine s_ ?_;simp)
 refine Qu 2 (λj=>(1<=j->Hq a=true)/\(2<=j->Hq b=true)) (λj=>[(2,.vptr 0 0),(3,.vptr 1 0),(4,.vptr 2 0),(5,.vptr 3 0),(6,.vptr 4 0),(38,.sl 6 3 0 2),(39,.i 2),(40,.i j)])
  (λ_=>[.vars (Ql a),.vars (Ql b),.vars [.nils],.vars [.bool false],.vars [.i 0],.arr 25 3 [encA a,encA b],.arr 25 3 [encA a,encA b]]) rfl (by simp) (by simp) (by simp) (by simp) ⟨λh=>by omega,λh=>by omega⟩ ?_
 intro j hj hI ih;simp only[encA];repeat(refine s_ ?_;simp)
 refine Qa rfl (λy0=>?_) (λyc=>?_)
 ·have yy:j<2:=by simp at y0;omega
  obtain rfl|rfl:j=0\/j=1:=by omega
  ·repeat(refine s_ ?_;simp)
   refine pcL (y13 a) ?_;simp[w1c y1];repeat(refine s_ ?_;simp)
   refine Qa rfl (λh=>?_) (λh=>?_)
   ·rw[if_pos (.inl (by simpa using h))]at hR;rw[<-hR];repeat(refine s_ ?_;simp)
    rfl
   have h0:Hq a=true:=by simpa using h
   repeat(refine s_ ?_;simp)
   refine Qs _ (ih (by omega) ⟨λ_=>h0,λh=>by omega⟩) rfl (by simp) ?_ (by simp) (by simp);simp[yo]
  have wc:=hI.1 (by omega);repeat(refine s_ ?_;simp)
  refine pcL (y13 b) ?_;simp[w1c x1];repeat(refine s_ ?_;simp)
  refine Qa rfl (λh=>?_) (λh=>?_)
  ·rw[if_pos (.inr (by simpa using h))]at hR;rw[<-hR];repeat(refine s_ ?_;simp)
   rfl
  have h0:Hq b=true:=by simpa using h
  repeat(refine s_ ?_;simp)
  refine Qs _ (ih (by omega) ⟨λ_=>wc,λ_=>h0⟩) rfl (by simp) ?_ (by simp) (by simp);simp[yo,xk]
 have x0:j=2:=by simp at yc;omega
 subst x0;have xl:=hI.1 (by omega);have xm:=hI.2 (by omega);clear hI ih;rw[if_neg (λk=>by rw[xl,xm]at k;simp at k)]at hR;repeat(refine s_ ?_;simp)
 refine Qa rfl (λh=>?_) (λh=>?_)
 ·rw[if_pos (by simpa using h)]at hR;rw[<-hR];repeat(refine s_ ?_;simp)
  rfl
 have xn:a.types=b.types:=by simpa using h
 rw[if_neg (λk=>k xn)]at hR;have ht:b.types=a.types:=xn.symm;have ha:=(Yh a).1 y1;have hb:=(Yh b).1 x1;have vj:=ha.fin;have vk:=hb.fin;repeat(refine s_ ?_;simp)
 refine Qp (sl':=[(2,.vptr 0 0),(3,.vptr 1 0),(4,.vptr 2 0),(5,.vptr 3 0),(6,.vptr 4 0)]) ?_ (by simp);have cA:=Ik a ha;have cB:=Ik b hb;simp only[Rc,Q3,encA]at cA cB;refine Kb tOk mixed [6,7] (.val 0 (.val 2 (.three 1 (.three 3 (.two 4 (.one 5 (.one 6 (.one 7 (.done)))) 5 (.one 4 (.one 6 (.one 7 (.done))))) 4 (.two 3 (.one 5 (.one 6 (.one 7 (.done)))) 5 (.one 3 (.one 6 (.one 7 (.done))))) 5 (.two 3 (.one 4 (.one 6 (.one 7 (.done)))) 4 (.one 3 (.one 6 (.one 7 (.done)))))) 4 (.two 1 (.two 3 (.one 5 (.one 6 (.one 7 (.done)))) 5 (.one 3 (.one 6 (.one 7 (.done))))) 5 (.one 1 (.one 3 (.one 6 (.one 7 (.done)))))) 5 (.two 1 (.two 3 (.one 4 (.one 6 (.one 7 (.done)))) 4 (.one 3 (.one 6 (.one 7 (.done))))) 4 (.one 1 (.one 3 (.one 6 (.one 7 (.done))))))))) (⟨[(2,.vptr 0 0),(3,.vptr 1 0),(4,.vptr 2 0),(5,.vptr 3 0),(6,.vptr 4 0),(14,.vptr 7 0),(15,.vptr 8 0)],[.vars [.i a.types,.list (a.fin.map .bool),.list (a.mv.map encMv)],.vars [.i b.types,.list (b.fin.map .bool),.list (b.mv.map encMv)],.vars [.nils],.vars [.bool false],.vars [.i 0],.arr 25 3 [.agg [.i a.types,.list (a.fin.map .bool),.list (a.mv.map encMv)],.agg [.i b.types,.list (b.fin.map .bool),.list (b.mv.map encMv)]],.arr 25 3 [.agg [.i a.types,.list (a.fin.map .bool),.list (a.mv.map encMv)],.agg [.i b.types,.list (b.fin.map .bool),.list (b.mv.map encMv)]],.vars [.i a.types,.list (a.fin.map .bool),.list (a.mv.map encMv),.list (Tj a)],.vars [.i b.types,.list (b.fin.map .bool),.list (b.mv.map encMv),.list (Tj b)]]⟩) rfl (by kernel_rfl) ?_ ?_;simp
 ·repeat' (first|refine And.intro ?_ ?_|(refine pcL cA ?_;simp)|(refine pcL cB ?_;simp))
  all_goals first|(refine D8 ?_;simp;done)|exact Ha [0,1,2,3,4,5,6,8,7] (by simp) (by decide) (by simp) rfl (by simp) (by simp) (by simp)
 repeat(refine s_ ?_;simp)
 refine Wq 9 rfl ?_;simp;refine Ix rfl rfl (by simp) (N9 (-1) a.fin.length (by omega) (by omega)) rfl ?_;rintro _ rfl;simp;repeat(refine s_ ?_;simp)
 refine Wq 12 rfl ?_;simp;refine Ix rfl rfl (by simp) (N9 (-1) b.fin.length (by omega) (by omega)) rfl ?_;rintro _ rfl;simp;repeat(refine s_ ?_;simp)
 obtain⟨Rb,x2⟩:∃Rb,q0p (c1q a b) (psP a b) (a.fin.length+1) 0 (Kn a)=Rb:=⟨_,rfl⟩
 rw[x2]at hR;have x3:=Dt ha hb;have x4:=BkS.start (n:=a.fin.length) (m:=b.fin.length) (by omega) (by omega);have d1:=(Ao ha.wfA).1 xl;have d2:=(Ao hb.wfA).1 xm;have x5:=d0m ⟨ha,d1⟩ ⟨hb,d2⟩ ht;have xo:((Kn a).1.map AV.i)=(yH a.fin.length (AV.i (-1))).set 0 (.i 0):=by unfold Kn;simp[uE]
 have we:(Kn a).2=[0]:=rfl;have xp:(Kn a).1=(yH a.fin.length (-1)).set 0 0:=rfl;have xq:((yH b.fin.length (-1:Int)).set 0 0).map AV.i=(yH b.fin.length (AV.i (-1))).set 0 (.i 0):=by simp[uE]
 rw[<-xp]at x4;have yd:((yH b.fin.length (-1:Int)).set 0 0).length=b.fin.length:=by simp
 generalize (yH b.fin.length (-1:Int)).set 0 0=x6 at *
 have zd:=x3.len;have rA:(yH a.fin.length (AV.i (-1))).length=a.fin.length:=by simp
 have rB:(yH b.fin.length (AV.i (-1))).length=b.fin.length:=by simp
 have rA0:(yH a.fin.length (AV.i (-1)))[0]?=some (.i (-1)):=by rw[vM,if_pos (by omega)]
 have rB0:(yH b.fin.length (AV.i (-1)))[0]?=some (.i (-1)):=by rw[vM,if_pos (by omega)]
 have wg:0<a.fin.length:=by omega
 have wh:0<b.fin.length:=by omega
 generalize yH a.fin.length (AV.i (-1))=ra at *;generalize yH b.fin.length (AV.i (-1))=rb at *;refine Qp (sl':=[(2,.vptr 0 0),(3,.vptr 1 0),(4,.vptr 2 0),(5,.vptr 3 0),(6,.vptr 4 0),(14,.vptr 7 0),(15,.vptr 8 0),(16,.vptr 11 0),(17,.vptr 14 0)]) ?_ (by simp)
 refine Dg (P:=prog) tOk mixed [3,5] (.val 0 (.val 2 (.two 1 (.one 3 (.val 4 (.one 5 (.done)))) 3 (.val 1 (.val 4 (.one 5 (.done))))))) (λS'=>IzF a b 7 8 11 10 14 13 (Kn a).1 x6 S'.hp/\S'.hp.length=15/\look S'.sl 2=some (.vptr 0 0)/\look S'.sl 3=some (.vptr 1 0)/\look S'.sl 4=some (.vptr 2 0)/\look S'.sl 5=some (.vptr 3 0)/\look S'.sl 6=some (.vptr 4 0)/\look S'.sl 14=some (.vptr 7 0)/\look S'.sl 15=some (.vptr 8 0)/\look S'.sl 16=some (.vptr 11 0)/\look S'.sl 17=some (.vptr 14 0)) rfl (by kernel_rfl) ?_ ?_
 ·have rAh:∀hh,ra[0]'hh= .i (-1):=λhh=>(yI hh).2 rA0;have rBh:∀hh,rb[0]'hh= .i (-1):=λhh=>(yI hh).2 rB0;simp[rA,rB,rA0,rB0,wg,wh,rAh,rBh];exact⟨rfl,rfl,rfl,rfl,rfl,rfl,rfl,by rw[zd];rfl,by rw[yd];rfl,by rw[xo];rfl,by rw[xq];rfl,by decide⟩
 rintro⟨sl,G⟩ ⟨zF,ye,l2,l3,l4,l5,l6,l14,l15,l16,l17⟩;simp only at zF ye l2 l3 l4 l5 l6 l14 l15 l16 l17;clear rA rB rA0 rB0 xo xq;clear ra rb;refine Qp (sl':=[(2,.vptr 0 0),(3,.vptr 1 0),(4,.vptr 2 0),(5,.vptr 3 0),(6,.vptr 4 0),(14,.vptr 7 0),(15,.vptr 8 0),(16,.vptr 11 0),(17,.vptr 14 0)]) ?_ (by simp[l2,l3,l4,l5,l6,l14,l15,l16,l17]);repeat(refine s_ ?_;simp)
 refine Wb λZ hZ=>?_;have zR:IzR a b 7 8 11 10 14 13 16 0 (Kn a) Z:=by
  rw[hZ];refine⟨x6,15,0,1,[0],zF.app _,x4,⟨rfl,rfl,zW _⟩,?_,?_,by decide⟩
  ·rw[zO (by omega)];simp[ye]
  rw[zO (by omega)];simp[ye]
 rw[ye];clear hZ zF ye l2 l3 l4 l5 l6 l14 l15 l16 l17;clear G sl;refine Qi (Qc (sl':=[(2,.vptr 0 0),(3,.vptr 1 0),(4,.vptr 2 0),(5,.vptr 3 0),(6,.vptr 4 0),(14,.vptr 7 0),(15,.vptr 8 0),(16,.vptr 11 0),(17,.vptr 14 0),(18,.vptr 16 0)]) ?_ (by simp));refine Qj (P:=prog) (F:=λ(u:Nat×Nat×(List Int×List Int)×Nat×List AObj)=>⟨[(2,.vptr 0 0),(3,.vptr 1 0),(4,.vptr 2 0),(5,.vptr 3 0),(6,.vptr 4 0),(14,.vptr 7 0),(15,.vptr 8 0),(16,.vptr 11 0),(17,.vptr 14 0),(18,.vptr u.2.2.2.1 0)],u.2.2.2.2⟩)
  (λu=>a.fin.length+1<=u.2.1+u.1/\u.2.1<=u.2.2.1.2.length/\IsoI a b u.2.2.1/\q0p (c1q a b) (psP a b) u.1 u.2.1 u.2.2.1=Rb/\IzR a b 7 8 11 10 14 13 u.2.2.2.1 u.2.1 u.2.2.1 u.2.2.2.2/\14<u.2.2.2.1) (λu=>u.1) ?_ (a.fin.length+1,0,Kn a,16,Z) ⟨by simp,by simp,x3,x2,zR,(by omega:14<16)⟩
 clear x3 x2 zR x4 yd we xp zd;clear Z x6;rintro⟨f,n,st,c8,H⟩ ⟨wi,xr,hI,hB,⟨bk,q8,off,L,xs,zF,zB,zQ,z8,yp,wj⟩,wk⟩ ih;simp only at wi xr hI hB zF zB zQ z8 yp wk ih |-;have hL:=zQ.pos xr;have vl:=hI.len2;repeat(refine s_ ?_;simp[z8])
 refine Qa rfl (λy0=>?_) (λyc=>?_)
 ·have hn:n<st.2.length:=by simp at y0;omega
  obtain⟨f,rfl⟩:∃g,f=g+1:=⟨f - 1,by omega⟩
  have wm:=λn' st' c' G h=>ih (f,n',st',c',G) h (sf _);clear ih;have hx:=zQ.head hn;rw[q1o hn]at hB;have x7:=(hI.mem _).1 (zT hn);have yf:=hI.rng _ x7.1 x7.2;have x8:st.2[n]∈st.2:=zT hn;generalize st.2[n]=p at *
  obtain⟨yg,wo⟩:=x7;obtain⟨q,hq⟩:∃q,fAt st.1 p=q:=⟨_,rfl⟩
  rw[hq]at hB yf wo;obtain⟨pn,rfl⟩:∃k:Nat,p=k:=⟨p.toNat,by have:=yg.1;omega⟩
  obtain⟨qn,rfl⟩:∃k:Nat,q=k:=⟨q.toNat,by omega⟩
  have yq:pn<a.fin.length:=by have:=yg.2;omega
  have x9:qn<b.fin.length:=by have:=yf.2;omega
  have xa:(xs.map AV.i)[off]?=some (.i pn):=by simp[hx]
  have xt:∀hh,(xs.map AV.i)[off]'hh= .i pn:=λhh=>(yI hh).2 xa;have xu:=hI.len;have xb:(st.1.map AV.i)[pn]?=some (.i qn):=by have:=Xv (f:=st.1) (s:=(pn:Int)) (by omega) (by simp;omega);rw[hq]at this;simpa using this
  have yh:∀hh,(st.1.map AV.i)[pn]'hh= .i qn:=λhh=>(yI hh).2 xb;have wu:(st.1.map AV.i).length=a.fin.length:=by simp[xu]
  have wv:=zQ.len;have xv:(xs.map AV.i).length=xs.length:=by simp
  have xw:0<L:=by omega
  have z6:=zF.hc6;have xx:=zF.hq6;rw[xu]at z6;repeat(refine s_ ?_;simp)
  refine Qn tOk mixed [] (.val 0 (.val 1 (.val 2 (.val 3 (.val 4 (.val 5 (.val 6 (.val 7 (.val 8 (.val 9 (.val 10 (.done)))))))))))) rfl (by kernel_rfl) ?_;simp[z8,yp,xa,xt,xw,xv,z6,xx,xb,yh,yq,wu];have xy:g2o a b pn qn=(a.fin[pn]==b.fin[qn]):=by unfold g2o;simp[yV,yq,x9]
  unfold c1q at hB;rw[xy]at hB;have z0:=zF.h0;have z1:=zF.h1;have zJ:=zF.hJ;have zK:=zF.hK;have y2:=zF.h2;have y3:=zF.h3;have y4:=zF.h4;by_cases he:a.fin[pn]=b.fin[qn]
  ·have zb:(a.fin[pn]==b.fin[qn])=true:=by simp[he]
   rw[zb,Bool.true_and]at hB;have cS:=g1l a b ha hb pn qn yg yf;simp only[Rc,Q3]at cS;repeat(refine s_ ?_;simp)
   refine Qn tOk mixed [] (.val 0 (.val 1 (.val 2 (.val 3 (.val 4 (.val 5 (.val 6 (.val 7 (.val 8 (.val 9 (.val 10 (.val 11 (.val 12 (.val 13 (.val 14 (.val 15 (.one 16 (.val 17 (.val 18 (.done)))))))))))))))))))) rfl (by kernel_rfl) ?_;simp[z0,z1,zJ,zK,yq,x9,zb];refine pcL (cS) ?_;simp;refine Qa rfl (λh=>?_) (λh=>?_)
   ·rw[if_neg (by simpa using h)]at hB;rw[<-hB]at hR;rw[<-hR];have k3:∀y,(H.set 2 y)[3]?=some (.vars [.bool false]):=λy=>Qd (by decide) y3 y;have k4:∀y z,((H.set 2 y).set 3 z)[4]?=some (.vars [.i 0]):=λy z=>Qd (by decide) (Qd (by decide) y4 y) z;have kA:∀x y z,(((H.set 2 x).set 3 y).set 4 z)[2]?=some x:=λx y z=>Qd (by decide) (Qd (by decide) (Qg y2 x) y) z;have kB:∀x y z,(((H.set 2 x).set 3 y).set 4 z)[3]?=some y:=λx y z=>Qd (by decide) (Qg (k3 x) y) z;have kC:∀x y z,(((H.set 2 x).set 3 y).set 4 z)[4]?=some z:=λx y z=>Qg (k4 x y) z;repeat(refine s_ ?_;simp[y2,k3,k4,kA,kB,kC])
    rfl
   rw[if_pos (by simpa using h)]at hB;clear zb he xy cS xa xt xb yh;repeat(refine s_ ?_;simp[zJ,zK])
   refine pcL (y01 a b pn qn) ?_;simp;repeat(refine s_ ?_;simp)
   refine Qp (sl':=[(2,.vptr 0 0),(3,.vptr 1 0),(4,.vptr 2 0),(5,.vptr 3 0),(6,.vptr 4 0),(14,.vptr 7 0),(15,.vptr 8 0),(16,.vptr 11 0),(17,.vptr 14 0),(18,.vptr c8 0),(117,.fn (.func 142) [] [.iptr (Q3 a),.iptr [.i pn],.iptr (Q3 b),.iptr [.i qn]])]) ?_ (by simp[Q3]);refine Ej rfl (Rf:=λ_ H'=>∃pend sl' ps' a' b',H'[H.length]?=some (.lp pend.isNone pend 160 sl' ps' a' b')/\
    ((pend=none/\IzO a b c8 n st (psP a b pn qn) H')\/(pend=some .ret/\W7 (psP a b pn qn) st=none/\H'[2]?=some (.vars [.nils])/\H'[3]?=some (.vars [.bool false])/\H'[4]?=some (.vars [.i 0])))) ?_ ?_
   ·simp;refine F3 λH1 xc=>?_;have fR:IzR a b 7 8 11 10 14 13 c8 n st H1:=by rw[xc];exact IzR.app ⟨bk,q8,off,L,xs,zF,zB,zQ,z8,yp,wj⟩ _
    have fl:=congrArg (λh:List AObj=>h[H.length]?) xc;simp at fl;have y5:c8<H.length:=Qf z8;clear xc z0 z1 zJ zK y2 y3 y4 z8 yp zF zB zQ z6 xx xv wv hL xw hx y0 hB;generalize H.length=l at *;refine FC.mono (Bx a b ha hb ht pn qn yg yf l (by rfl) (by rfl)
     (λpre H'=>H'[l]? =H1[l]? /\IzO a b c8 n st (pre.map (·.2)) H')
     (λc H'=>c= .ret/\(∃sl' ps' a' b',H'[l]?=some (.lp false (some .ret) 160 sl' ps' a' b'))/\W7 (psP a b pn qn) st=none/\H'[2]?=some (.vars [.nils])/\H'[3]?=some (.vars [.bool false])/\H'[4]?=some (.vars [.i 0])) H1
     (λk H' h=>h.1.trans fl) ?_ ?_ ⟨rfl,st,IzP.start hI,fR⟩) ?_
    ·rintro k H' X ⟨h2,st',h3,h4⟩;exact⟨by rw[<-h2,List.getElem?_append_left (by rw[fl]at h2;exact Qf h2)],st',h3,h4.app X⟩
    ·rintro pre ⟨x,s,t⟩ post H' hst ⟨h1,st',hP,zc,q9,z7,L',ys,gF,gB,gQ,g8,zj,xd⟩ hlen;simp[Rz];have xz:(x,s,t)∈Ww a b ((pn:Int),(qn:Int)):=by rw[hst];simp
     obtain⟨w0,w1⟩:=v0t ha hb xz;simp only at w0 w1;obtain⟨y,hy,wy,v7,s0,t0⟩:=x5.from_ pn qn yg yf (s,t) (by rw[w0a];exact zU.2 ⟨_,xz,rfl⟩);have y9:=hP.next ha hb hI x8 hy wy (by rw[hq];exact v7) s0 t0;have v8:(pre++[(x,s,t)]).map (·.2)=pre.map (·.2)++[(s,t)]:=by simp
     have zn:W7 (pre.map (·.2)++[(s,t)]) st=none->W7 (psP a b pn qn) st=none:=λh=>by
      have e:psP a b pn qn=(pre.map (·.2)++[(s,t)])++post.map (·.2):=by rw[w0a,hst];simp
      rw[e];exact M0 h
     have zz:=Qg (h1.trans fl) .dead;have vm:=Qf fl;have zk:q9≠l:=λe=>by rw[e,h1.trans fl]at zj;simp at zj
     have yi:q9≠c8:=λe=>by rw[e,g8]at zj;simp at zj
     have gF:=gF.put (j:=l) (by omega) .dead;have g8:=Qd (j:=l) (by omega) g8 .dead;have zj:=Qd (j:=l) (Ne.symm zk) zj .dead;have w5:∀i cs,H1.length<=i->H'[i]?=some (.vars cs)->(H'.set l .dead)[i]?=some (.vars cs):=λi cs hi hc=>by rw[zH (by omega)];exact hc
     have w7:(H'.set l .dead).length=H'.length:=by simp
     rw[<-w7];generalize H'.set l .dead=Z at *;simp only[Eo]
     obtain⟨sn,rfl⟩:∃k:Nat,s=k:=⟨s.toNat,by omega⟩
     obtain⟨tn,rfl⟩:∃k:Nat,t=k:=⟨t.toNat,by omega⟩
     have zd:sn<a.fin.length:=by have:=w0.2;omega
     have zl:tn<b.fin.length:=by have:=w1.2;omega
     have ze:=hP.inv.len;have w9:=gB.len;have zp:=gB.iff tn (by omega) (by omega);have yj:=λh=>gB.set (s:=(sn:Int)) (t:=(tn:Int)) (by omega) (by simp;omega) h (by omega) (by omega);obtain⟨v,hv⟩:∃v,fAt st'.1 sn=v:=⟨_,rfl⟩
     obtain⟨w,hw⟩:∃w,fAt zc tn=w:=⟨_,rfl⟩
     rw[hv]at yj;rw[hw]at zp;have vn:((sn:Int),(tn:Int))=((sn:Int),(tn:Int)):=rfl;have zq:(st'.1.map AV.i)[sn]?=some (.i v):=by have:=Xv (f:=st'.1) (s:=(sn:Int)) (by omega) (by simp;omega);rw[hv]at this;simpa using this
     have zf:∀hh,(st'.1.map AV.i)[sn]'hh= .i v:=λhh=>(yI hh).2 zq;have yk:(zc.map AV.i)[tn]?=some (.i w):=by have:=Xv (f:=zc) (s:=(tn:Int)) (by omega) (by simp;omega);rw[hw]at this;simpa using this
     have zm:∀hh,(zc.map AV.i)[tn]'hh= .i w:=λhh=>(yI hh).2 yk;have zr:(st'.1.map AV.i).length=a.fin.length:=by simp[ze]
     have yr:(zc.map AV.i).length=b.fin.length:=by simp[w9]
     refine Rp tOk rfl ?_;simp;refine Wb λY hY=>?_;have yF:IzF a b 7 8 11 10 14 13 st'.1 zc Y:=by rw[hY];exact gF.app _
     have y8:Y[c8]?=some (.vars [.sl q9 1 z7 L']):=by rw[hY];exact Qb g8 _
     have xe:Y[q9]?=some (.arr 3 1 (ys.map AV.i)):=by rw[hY];exact Qb zj _
     have yx:Y[Z.length]?=some (.vars [.i x.ty,.i x.num,.i sn,.i tn]):=by rw[hY,zO (by simp)];simp
     have yz:Y[l]?=some .dead:=by rw[hY];exact Qb zz _
     have vb:Y.length=Z.length+1:=by rw[hY];simp
     have xf:∀i cs,H1.length<=i->H'[i]?=some (.vars cs)->Y[i]?=some (.vars cs):=λi cs hi hc=>by rw[hY];exact Qb (w5 i cs hi hc) _
     have vo:l<Z.length:=Qf zz;clear hY gF g8 zj zz w5 w7;generalize Z.length=X at *;clear Z
     have y6:=yF.hc6;have y7:=yF.hc7;have zt:=yF.hq6;have ya:=yF.hq7;rw[ze]at y6;rw[w9]at y7;by_cases yt:v<0
     ·have yu:decide (v<0)=true:=by simpa using yt
      by_cases hw0:w<0
      ·have xg:decide (w<0)=true:=by simpa using hw0
       repeat(refine s_ ?_;simp[y6,y7,zt,ya,yx,zq,zf,yk,zm,zr,yr,zd,zl,yu,xg])
       refine Qa rfl (λ_=>?_) (λh=>by simp at h);repeat(refine s_ ?_;simp)
       have k7:∀y,(Y.set 10 y)[14]?=some (.vars [.sl 13 1 0 b.fin.length]):=λy=>Qd (by decide) y7 y;have wa:∀y,(Y.set 10 y)[13]?=some (.arr 3 1 (zc.map AV.i)):=λy=>Qd (by decide) ya y;have kx:∀y,(Y.set 10 y)[X]?=some (.vars [.i x.ty,.i x.num,.i sn,.i tn]):=λy=>Qd (by omega) yx y;refine Dg (P:=prog) tOk mixed [11,13] (.val 0 (.val 1 (.val 2 (.val 4 (.val 6 (.val 7 (.val 8 (.val 10 (.four 3 (.three 5 (.two 9 (.one 11 (.val 12 (.one 13 (.done)))) 11 (.val 9 (.val 12 (.one 13 (.done))))) 9 (.two 5 (.one 11 (.val 12 (.one 13 (.done)))) 11 (.val 5 (.val 12 (.one 13 (.done))))) 11 (.val 5 (.val 9 (.val 12 (.one 13 (.done)))))) 5 (.three 3 (.two 9 (.one 11 (.val 12 (.one 13 (.done)))) 11 (.val 9 (.val 12 (.one 13 (.done))))) 9 (.two 3 (.one 11 (.val 12 (.one 13 (.done)))) 11 (.val 3 (.val 12 (.one 13 (.done))))) 11 (.val 3 (.val 9 (.val 12 (.one 13 (.done)))))) 9 (.three 3 (.two 5 (.one 11 (.val 12 (.one 13 (.done)))) 11 (.val 5 (.val 12 (.one 13 (.done))))) 5 (.two 3 (.one 11 (.val 12 (.one 13 (.done)))) 11 (.val 3 (.val 12 (.one 13 (.done))))) 11 (.val 3 (.val 5 (.val 12 (.one 13 (.done)))))) 11 (.val 3 (.val 5 (.val 9 (.val 12 (.one 13 (.done))))))))))))))) (λS'=>S'.hp=(Y.set 10 (.arr 3 1 ((st'.1.map AV.i).set sn (.i tn)))).set 13 (.arr 3 1 ((zc.map AV.i).set tn (.i sn)))/\look S'.sl 4=some (.vptr 2 0)/\look S'.sl 5=some (.vptr 3 0)/\look S'.sl 6=some (.vptr 4 0)/\look S'.sl 16=some (.vptr 11 0)/\look S'.sl 18=some (.vptr c8 0)/\look S'.sl 21=some (.vptr X 0)) rfl (by kernel_rfl) ?_ ?_
       ·simp[y6,y7,zt,ya,yx,zq,zf,yk,zm,zr,yr,zd,zl,k7,wa,kx]
       rintro⟨vp,E⟩ ⟨hE,m4,m5,m6,m16,m18,m21⟩;simp only at hE m4 m5 m6 m16 m18 m21;have zu:(st'.1.map AV.i).set sn (.i tn)=(st'.1.set sn tn).map AV.i:=by simp[uE]
       have yl:(zc.map AV.i).set tn (.i sn)=(zc.set tn sn).map AV.i:=by simp[uE]
       rw[zu,yl]at hE;have eF:=yF.upd (st'.1.set sn tn) (zc.set tn sn) (by simp) (by simp);rw[<-hE]at eF;have e8:E[c8]?=some (.vars [.sl q9 1 z7 L']):=by rw[hE];exact Qd (by omega) (Qd (by omega) y8 _) _
       have zg:E[q9]?=some (.arr 3 1 (ys.map AV.i)):=by rw[hE];exact Qd (by omega) (Qd (by omega) xe _) _
       have ex:E[X]?=some (.vars [.i x.ty,.i x.num,.i sn,.i tn]):=by rw[hE];exact Qd (by omega) (Qd (by omega) yx _) _
       have ez:E[l]?=some .dead:=by rw[hE];exact Qd (by omega) (Qd (by omega) yz _) _
       have yb:∀i cs,H1.length<=i->H'[i]?=some (.vars cs)->E[i]?=some (.vars cs):=λi cs hi hc=>by rw[hE];exact Qd (by omega) (Qd (by omega) (xf i cs hi hc) _) _
       have vq:E.length=X+1:=by rw[hE];simp[vb]
       have gB2:=yj yt;simp only[Int.toNat_natCast]at gB2;have za:Ew st' ((sn:Int),(tn:Int))=some (st'.1.set sn tn,st'.2++[(sn:Int)]):=by have:=g1e (st:=st') (e:=((sn:Int),(tn:Int))) (by simp only;omega) (by simp only;rw[hv];exact yt) (λk=>by have:=zp.2 k;omega);simpa using this
       have vc:=hP.len;have xh:=hP.inv.len2;have vd:=gQ.pos (by omega);have vr:=gQ.len;have vt:=gQ.le;have wb:(ys.map AV.i).length=ys.length:=by simp
       have vu:q9<E.length:=Qf zg;have zv:q9≠X:=λe=>by rw[e,ex]at zg;simp at zg
       have zh:((st'.1.set sn tn).map AV.i)[sn]?=some (.i tn):=by rw[<-zu,zS (by rw[zr];exact zd)]
       have yv:((st'.1.set sn tn).map AV.i).length=a.fin.length:=by simp[ze]
       obtain⟨T1,yw⟩:∃T1,(st'.1.set sn tn).map AV.i=T1:=⟨_,rfl⟩
       rw[yw]at zh yv;have zi:∀hh,T1[sn]'hh= .i tn:=λhh=>(yI hh).2 zh;clear hE k7 wa kx yF y8 xe yx yz xf y6 y7 zt ya zu yl;refine Qp (sl':=[(4,.vptr 2 0),(5,.vptr 3 0),(6,.vptr 4 0),(16,.vptr 11 0),(18,.vptr c8 0),(21,.vptr X 0)]) ?_ (by simp[m4,m5,m6,m16,m18,m21]);by_cases ho:z7=0
       ·subst ho;obtain rfl:L'=ys.length:=by omega
        have e8c:∀M,(E.set q9 .dead++M)[c8]?=some (.vars [.sl q9 1 0 ys.length]):=λM=>Qb (Qd yi e8 _) M;have e8d:∀M hh,(E.set q9 .dead++M)[c8]'hh= .vars [.sl q9 1 0 ys.length]:=λM hh=>(yI hh).2 (e8c M);repeat(refine s_ ?_;simp[e8,ex])
        refine apS T47 T3 ?_;simp[Qb zg,Qh zg,zg,wb,e8c,e8d];refine⟨by simp[W1,Qb zg,Qh zg,zg,wb,e8c,e8d]<;>omega,?_⟩;refine Wb λW hW=>?_;have f:∀ {i:Nat} {z:AObj},i≠q9->i≠c8->E[i]?=some z->W[i]?=some z:=λh1 h2 hz=>by rw[hW];exact Qd (Ne.symm h2) (Qb (Qd (Ne.symm h1) hz _) _) _
        have wF:=eF.keep (X:=W) λi hi z hz=>f (by omega) (by omega) hz;have w8:W[c8]?=some (.vars [.sl (E.length+1) 1 0 (ys.length+1)]):=by rw[hW];exact Qg (e8c _) _
        have wq:W[(E.length+1)]?=some (.arr 3 1 ((ys++[(sn:Int)]).map AV.i)):=by rw[hW];(rw[zH (by omega),zO (by simp)];simp)
        have wx:=f (Ne.symm zv) (by omega) ex;have wz:=f (Ne.symm zk) (by omega) ez;have ym:∀i cs,H1.length<=i->H'[i]?=some (.vars cs)->W[i]?=some (.vars cs):=λi cs hi hc=>f (λe=>by have:=yb i cs hi hc;rw[e,zg]at this;simp at this) (by omega) (yb i cs hi hc);have wQ7:14<(E.length+1):=by omega
        have w6:=wF.hc6;have zo:=wF.hq6;rw[wI,ze]at w6;rw[yw]at zo;clear hW f;repeat(refine s_ ?_;simp)
        refine Qn tOk mixed [] (.val 0 (.val 1 (.val 2 (.val 3 (.val 4 (.val 5 (.val 6 (.val 7 (.done))))))))) rfl (by kernel_rfl) ?_;simp[w6,zo,wx,zh,zi,yv,zd];refine Qa rfl (λh=>by simp at h) (λ_=>?_);repeat(refine s_ ?_;simp)
        rcases y9 with⟨zb,_⟩|⟨st2,e2,zw⟩
        ·rw[za]at zb;cases zb
        rw[za]at e2;obtain rfl:=Option.some.inj e2;have zx:IzR a b 7 8 11 10 14 13 c8 n (st'.1.set sn tn,st'.2++[(sn:Int)]) W:=⟨zc.set tn sn,(E.length+1),0,ys.length+1,ys++[(sn:Int)],wF,gB2,gQ.add (by omega) _,w8,wq,wQ7⟩
        refine⟨wz,.inl ⟨rfl,⟨(Qg wz _).trans fl.symm,?_⟩,λi cs hi hc=>by rw[zH (by omega)];exact ym i cs hi hc⟩⟩;exact⟨_,zw,zx.put y5 (by omega) wz (by simp) _⟩
       repeat(refine s_ ?_;simp[e8,ex])
       have e8c:∀y M,((E++M).set q9 y)[c8]?=some (.vars [.sl q9 1 z7 L']):=λy M=>Qd yi (Qb e8 M) y;have e8d:∀y M hh,((E++M).set q9 y)[c8]'hh= .vars [.sl q9 1 z7 L']:=λy M hh=>(yI hh).2 (e8c y M);have e8e:∀y M M2,((E++M).set q9 y++M2)[c8]?=some (.vars [.sl q9 1 z7 L']):=λy M M2=>Qb (e8c y M) M2;have e8f:∀y M M2 hh,((E++M).set q9 y++M2)[c8]'hh= .vars [.sl q9 1 z7 L']:=λy M M2 hh=>(yI hh).2 (e8e y M M2);refine Ct tOk rfl rfl T47 rfl T3 (by decide) (by decide) rfl rfl (Qb zg _) (by omega) (by simp;omega) (by simp) (ys:=[.i sn]) (by simp) (by simp[AV.cells,AV.leaf]) (by simp;omega) (by simp;omega) rfl ?_ ?_
       ·simp[e8c,e8d];refine Wb λW hW=>?_;have f:∀ {i:Nat} {z:AObj},i≠q9->i≠c8->E[i]?=some z->W[i]?=some z:=λh1 h2 hz=>by rw[hW];exact Qd (Ne.symm h2) (Qd (Ne.symm h1) (Qb hz _) _) _
        have wF:=eF.keep (X:=W) λi hi z hz=>f (by omega) (by omega) hz;have w8:W[c8]?=some (.vars [.sl q9 1 z7 (L'+1)]):=by rw[hW];exact Qg (e8c _ _) _
        have wq:W[q9]?=some (.arr 3 1 ((ys++[(sn:Int)]).map AV.i)):=by rw[hW];(rw[zH (by omega),zS (by simp;omega)];simp)
        have wx:=f (Ne.symm zv) (by omega) ex;have wz:=f (Ne.symm zk) (by omega) ez;have ym:∀i cs,H1.length<=i->H'[i]?=some (.vars cs)->W[i]?=some (.vars cs):=λi cs hi hc=>f (λe=>by have:=yb i cs hi hc;rw[e,zg]at this;simp at this) (by omega) (yb i cs hi hc);have wQ7:14<q9:=by omega
        have w6:=wF.hc6;have zo:=wF.hq6;rw[wI,ze]at w6;rw[yw]at zo;clear hW f;repeat(refine s_ ?_;simp)
        refine Qn tOk mixed [] (.val 0 (.val 1 (.val 2 (.val 3 (.val 4 (.val 5 (.val 6 (.val 7 (.done))))))))) rfl (by kernel_rfl) ?_;simp[w6,zo,wx,zh,zi,yv,zd];refine Qa rfl (λh=>by simp at h) (λ_=>?_);repeat(refine s_ ?_;simp)
        rcases y9 with⟨zb,_⟩|⟨st2,e2,zw⟩
        ·rw[za]at zb;cases zb
        rw[za]at e2;obtain rfl:=Option.some.inj e2;have zx:IzR a b 7 8 11 10 14 13 c8 n (st'.1.set sn tn,st'.2++[(sn:Int)]) W:=⟨zc.set tn sn,q9,z7,L'+1,ys++[(sn:Int)],wF,gB2,gQ.add (by omega) _,w8,wq,wQ7⟩
        refine⟨wz,.inl ⟨rfl,⟨(Qg wz _).trans fl.symm,?_⟩,λi cs hi hc=>by rw[zH (by omega)];exact ym i cs hi hc⟩⟩;exact⟨_,zw,zx.put y5 (by omega) wz (by simp) _⟩
       simp[e8e,e8f];refine Wb λW hW=>?_;have f:∀ {i:Nat} {z:AObj},i≠q9->i≠c8->E[i]?=some z->W[i]?=some z:=λh1 h2 hz=>by rw[hW];exact Qd (Ne.symm h2) (Qb (Qd (Ne.symm h1) (Qb hz _) _) _) _
       have wF:=eF.keep (X:=W) λi hi z hz=>f (by omega) (by omega) hz;have w8:W[c8]?=some (.vars [.sl (E.length+1) 1 0 (L'+1)]):=by rw[hW];exact Qg (e8e _ _ _) _
       have wq:W[(E.length+1)]?=some (.arr 3 1 ((ys.drop z7++[(sn:Int)]).map AV.i)):=by rw[hW];(rw[zH (by omega),zO (by simp)];simp)
       have wx:=f (Ne.symm zv) (by omega) ex;have wz:=f (Ne.symm zk) (by omega) ez;have ym:∀i cs,H1.length<=i->H'[i]?=some (.vars cs)->W[i]?=some (.vars cs):=λi cs hi hc=>f (λe=>by have:=yb i cs hi hc;rw[e,zg]at this;simp at this) (by omega) (yb i cs hi hc);have wQ7:14<(E.length+1):=by omega
       have w6:=wF.hc6;have zo:=wF.hq6;rw[wI,ze]at w6;rw[yw]at zo;clear hW f;repeat(refine s_ ?_;simp)
       refine Qn tOk mixed [] (.val 0 (.val 1 (.val 2 (.val 3 (.val 4 (.val 5 (.val 6 (.val 7 (.done))))))))) rfl (by kernel_rfl) ?_;simp[w6,zo,wx,zh,zi,yv,zd];refine Qa rfl (λh=>by simp at h) (λ_=>?_);repeat(refine s_ ?_;simp)
       rcases y9 with⟨zb,_⟩|⟨st2,e2,zw⟩
       ·rw[za]at zb;cases zb
       rw[za]at e2;obtain rfl:=Option.some.inj e2;have zx:IzR a b 7 8 11 10 14 13 c8 n (st'.1.set sn tn,st'.2++[(sn:Int)]) W:=⟨zc.set tn sn,(E.length+1),0,L'+1,ys.drop z7++[(sn:Int)],wF,gB2,gQ.cut (by omega) _,w8,wq,wQ7⟩
       refine⟨wz,.inl ⟨rfl,⟨(Qg wz _).trans fl.symm,?_⟩,λi cs hi hc=>by rw[zH (by omega)];exact ym i cs hi hc⟩⟩;exact⟨_,zw,zx.put y5 (by omega) wz (by simp) _⟩
      have xg:decide (w<0)=false:=by simpa using hw0
      have zy:Ew st' ((sn:Int),(tn:Int))=none:=y0u (by simp only;rw[hv];omega) (λk=>k.2 (zp.1 (by omega)));repeat(refine s_ ?_;simp[y6,y7,zt,ya,yx,zq,zf,yk,zm,zr,yr,zd,zl,yu,xg])
      refine Qa rfl (λh=>by simp at h) (λ_=>?_);repeat(refine s_ ?_;simp)
      refine Qn tOk mixed [] (.val 0 (.val 1 (.val 2 (.val 3 (.val 4 (.val 5 (.val 6 (.val 7 (.done))))))))) rfl (by kernel_rfl) ?_;simp[y6,zt,yx,zq,zf,zr,zd];refine Qa rfl (λ_=>?_) (λh=>by simp at h;omega);have xi:=zn (y9.elim (λh=>h.2) (λ⟨_,e2,_⟩=>by rw[zy]at e2;cases e2));have v2:=yF.h2;have v3:=yF.h3;have v4:=yF.h4;have k3:∀y,(Y.set 2 y)[3]?=some (.vars [.bool false]):=λy=>Qd (by decide) v3 y;have k4:∀y z,((Y.set 2 y).set 3 z)[4]?=some (.vars [.i 0]):=λy z=>Qd (by decide) (Qd (by decide) v4 y) z;have kA:∀x y z,(((Y.set 2 x).set 3 y).set 4 z)[2]?=some x:=λx y z=>Qd (by decide) (Qd (by decide) (Qg v2 x) y) z;have kB:∀x y z,(((Y.set 2 x).set 3 y).set 4 z)[3]?=some y:=λx y z=>Qd (by decide) (Qg (k3 x) y) z;have kC:∀x y z,(((Y.set 2 x).set 3 y).set 4 z)[4]?=some z:=λx y z=>Qg (k4 x y) z;repeat(refine s_ ?_;simp[v2,k3,k4,kA,kB,kC])
      have yn:∀x y z,(((Y.set 2 x).set 3 y).set 4 z)[l]?=some .dead:=λx y z=>Qd (by omega) (Qd (by omega) (Qd (by omega) yz x) y) z;exact⟨yn _ _ _,.inr ⟨_,rfl,rfl,⟨_,_,_,_,Qg (yn _ _ _) _⟩,xi,Qd (by omega) (kA _ _ _) _,Qd (by omega) (kB _ _ _) _,Qd (by omega) (kC _ _ _) _⟩⟩
     have yu:decide (v<0)=false:=by simpa using yt
     repeat(refine s_ ?_;simp[y6,y7,zt,ya,yx,zq,zf,yk,zm,zr,yr,zd,zl,yu])
     refine Qa rfl (λh=>by simp at h) (λ_=>?_);repeat(refine s_ ?_;simp)
     refine Qn tOk mixed [] (.val 0 (.val 1 (.val 2 (.val 3 (.val 4 (.val 5 (.val 6 (.val 7 (.done))))))))) rfl (by kernel_rfl) ?_;simp[y6,zt,yx,zq,zf,zr,zd];refine Qa rfl (λh=>?_) (λh=>?_)
     ·have ve:v≠tn:=by simpa using h
      have zy:Ew st' ((sn:Int),(tn:Int))=none:=y0u (by simp only;rw[hv];exact ve) (λk=>by have:=k.1;simp only at this;omega);have xi:=zn (y9.elim (λh=>h.2) (λ⟨_,e2,_⟩=>by rw[zy]at e2;cases e2));have v2:=yF.h2;have v3:=yF.h3;have v4:=yF.h4;have k3:∀y,(Y.set 2 y)[3]?=some (.vars [.bool false]):=λy=>Qd (by decide) v3 y;have k4:∀y z,((Y.set 2 y).set 3 z)[4]?=some (.vars [.i 0]):=λy z=>Qd (by decide) (Qd (by decide) v4 y) z;have kA:∀x y z,(((Y.set 2 x).set 3 y).set 4 z)[2]?=some x:=λx y z=>Qd (by decide) (Qd (by decide) (Qg v2 x) y) z;have kB:∀x y z,(((Y.set 2 x).set 3 y).set 4 z)[3]?=some y:=λx y z=>Qd (by decide) (Qg (k3 x) y) z;have kC:∀x y z,(((Y.set 2 x).set 3 y).set 4 z)[4]?=some z:=λx y z=>Qg (k4 x y) z;repeat(refine s_ ?_;simp[v2,k3,k4,kA,kB,kC])
      have yn:∀x y z,(((Y.set 2 x).set 3 y).set 4 z)[l]?=some .dead:=λx y z=>Qd (by omega) (Qd (by omega) (Qd (by omega) yz x) y) z;exact⟨yn _ _ _,.inr ⟨_,rfl,rfl,⟨_,_,_,_,Qg (yn _ _ _) _⟩,xi,Qd (by omega) (kA _ _ _) _,Qd (by omega) (kB _ _ _) _,Qd (by omega) (kC _ _ _) _⟩⟩
     have heq:v=tn:=by simpa using h
     have za:Ew st' ((sn:Int),(tn:Int))=some st':=c0x (by simp only;rw[hv];exact heq);repeat(refine s_ ?_;simp)
     rcases y9 with⟨zb,_⟩|⟨st2,e2,zw⟩
     ·rw[za]at zb;cases zb
     rw[za]at e2;obtain rfl:=Option.some.inj e2;have zx:IzR a b 7 8 11 10 14 13 c8 n st' Y:=⟨zc,q9,z7,L',ys,yF,gB,gQ,y8,xe,xd⟩
     refine⟨yz,.inl ⟨rfl,⟨(Qg yz _).trans fl.symm,?_⟩,λi cs hi hc=>by rw[zH (by omega)];exact xf i cs hi hc⟩⟩;exact⟨_,zw,zx.put y5 (by omega) yz (by simp) _⟩
    rintro r H' (⟨h1,hO⟩|⟨c,rfl,⟨sl',ps',a',b',h1⟩,h2,h3⟩)
    ·exact⟨none,⟨_,_,_,_,h1.trans fl⟩,.inl ⟨rfl,by rw[w0a];exact hO⟩⟩
    exact⟨some .ret,⟨_,_,_,_,h1⟩,.inr ⟨rfl,h2,h3⟩⟩
   rintro r H' ⟨pend,sl',ps',a',b',h1,h⟩;refine⟨_,pend,_,_,_,_,_,by simpa using h1,?_⟩;rcases h with⟨rfl,st',hP,vf⟩|⟨rfl,vg,w2,w3,w4⟩
   ·simp;have y5:c8<H.length:=Qf z8;obtain⟨zc,q9,z7,L',ys,gF,gB,gQ,g8,zj,xd⟩:=vf.put y5 (by omega) h1 (by simp) .dead;generalize H'.set H.length .dead=K at *
    have vc:=hP.len;have xh:=hP.inv.len2;have vd:=gQ.pos (by omega);have vh:(1:Int)<=L':=by omega
    have vv:L' - 1=L' - 1:=rfl;rw[hP.eq,wL]at hB;have g8A:=λE=>Qb g8 E;repeat(refine s_ ?_;simp[g8A,g8,vh])
    refine Qc (sl':=[(2,.vptr 0 0),(3,.vptr 1 0),(4,.vptr 2 0),(5,.vptr 3 0),(6,.vptr 4 0),(14,.vptr 7 0),(15,.vptr 8 0),(16,.vptr 11 0),(17,.vptr 14 0),(18,.vptr K.length 0)]) ?_ (by simp);have vw:=Qf g8;exact wm (n+1) st' K.length _ ⟨by simp only;omega,by simp only;omega,hP.inv,hB,⟨zc,q9,z7+1,L' - 1,ys,gF.app _,gB,gQ.tail (by omega),by rw[zO (by simp)];simp,Qb zj _,xd⟩,by simp only;omega⟩
   rw[vg]at hB;rw[<-hB]at hR;rw[<-hR];simp;have u2:(H'.set H.length .dead)[2]?=some (.vars [.nils]):=Qd (by have:=Qf z8;omega) w2 _;have u3:(H'.set H.length .dead)[3]?=some (.vars [.bool false]):=Qd (by have:=Qf z8;omega) w3 _;have u4:(H'.set H.length .dead)[4]?=some (.vars [.i 0]):=Qd (by have:=Qf z8;omega) w4 _;generalize H'.set H.length .dead=K at *
   repeat(refine s_ ?_;simp[u2,u3,u4])
   rfl
  have zb:(a.fin[pn]==b.fin[qn])=false:=by simpa using he
  rw[zb,Bool.false_and,if_neg (by simp)]at hB;rw[<-hB]at hR;rw[<-hR];repeat(refine s_ ?_;simp)
  refine Qn tOk mixed [] (.val 0 (.val 1 (.val 2 (.val 3 (.val 4 (.val 5 (.val 6 (.val 7 (.val 8 (.val 9 (.val 10 (.val 11 (.val 12 (.val 13 (.val 14 (.val 15 (.one 16 (.val 17 (.val 18 (.done)))))))))))))))))))) rfl (by kernel_rfl) ?_;simp[z0,z1,zJ,zK,yq,x9,zb];refine Wg rfl rfl ?_;simp;refine Qa rfl (λ_=>?_) (λh=>by simp at h);have k3:∀y,(H.set 2 y)[3]?=some (.vars [.bool false]):=λy=>Qd (by decide) y3 y;have k4:∀y z,((H.set 2 y).set 3 z)[4]?=some (.vars [.i 0]):=λy z=>Qd (by decide) (Qd (by decide) y4 y) z;have kA:∀x y z,(((H.set 2 x).set 3 y).set 4 z)[2]?=some x:=λx y z=>Qd (by decide) (Qd (by decide) (Qg y2 x) y) z;have kB:∀x y z,(((H.set 2 x).set 3 y).set 4 z)[3]?=some y:=λx y z=>Qd (by decide) (Qg (k3 x) y) z;have kC:∀x y z,(((H.set 2 x).set 3 y).set 4 z)[4]?=some z:=λx y z=>Qg (k4 x y) z;repeat(refine s_ ?_;simp[y2,k3,k4,kA,kB,kC])
  rfl
 have xj:st.2.length<=n:=by simp at yc;omega
 rw[w1a xj]at hB;rw[<-hB]at hR;rw[<-hR];have z6:=zF.hc6;have vx:(st.1.map AV.i).length=st.1.length:=by simp
 have vi:sw st.1.length (st.1.map AV.i)=st.1.map AV.i:=zZ (by simp);have y2:=zF.h2;have y3:=zF.h3;have y4:=zF.h4;have kq:∀x y z,(((H.set 2 x).set 3 y).set 4 z)[10]?=some (.arr 3 1 (st.1.map AV.i)):=λx y z=>Qd (by decide) (Qd (by decide) (Qd (by decide) zF.hq6 x) y) z;have k3:∀y,(H.set 2 y)[3]?=some (.vars [.bool false]):=λy=>Qd (by decide) y3 y;have k4:∀y z,((H.set 2 y).set 3 z)[4]?=some (.vars [.i 0]):=λy z=>Qd (by decide) (Qd (by decide) y4 y) z;have kA:∀x y z,(((H.set 2 x).set 3 y).set 4 z)[2]?=some x:=λx y z=>Qd (by decide) (Qd (by decide) (Qg y2 x) y) z;have kB:∀x y z,(((H.set 2 x).set 3 y).set 4 z)[3]?=some y:=λx y z=>Qd (by decide) (Qg (k3 x) y) z;have kC:∀x y z,(((H.set 2 x).set 3 y).set 4 z)[4]?=some z:=λx y z=>Qg (k4 x y) z;repeat(refine s_ ?_;simp[y2,k3,k4,kA,kB,kC,z6,kq,vi])
 rfl
end
section
open Go Go.Proofs Go.Maps Go.RowKit
attribute [local irreducible] Ab Vz El V0 k0y q0m v1k R8
def Cm(a b:Aut):PC prog 4 [encA a,encA b] (λr=>r= .bool true):=by
 refine pcB func4 results4 ntmps4 ?_;simp only[Qe];have cV:=Nw a b;have cM:=Ou a;have cN:=Ou b;have cS:=Ff a b;simp only[encA]at cV cM cN cS |-;repeat(refine s_ ?_;simp)
 refine pcL (w1q) ?_;simp;refine Qa rfl (λh=>by simp at h) (λ_=>?_);repeat(refine s_ ?_;simp)
 refine pcL (cV) ?_;simp;refine Qa rfl (λh=>?_) (λh=>?_)
 ·repeat(refine s_ ?_;simp)
 have hv:(V0 a && V0 b && decide (El a b=0))=true:=by simpa using h
 rw[yJ,yJ,decide_eq_true_eq]at hv;obtain⟨⟨f1,f2⟩,hb⟩:=hv;have f1:=(x0d.1 f1).1;have f2:=(x0d.1 f2).1;obtain⟨ha,z7,ht⟩:=Tf.1 hb;have z6:=z0k ha;have z1:=z0k z7;have zd:=j1i hb;have z8:=λm n h1 h2 h3=>Bh (m:=m) (n:=n) hb f1 f2 h1 h2 h3;have za:R8 a b≠0->Vz a b=(([],false),R8 a b):=λh=>g1s h;obtain⟨⟨em,m⟩,hM⟩:∃Z,Ab a=Z:=⟨_,rfl⟩
 obtain⟨⟨en,n⟩,hN⟩:∃Z,Ab b=Z:=⟨_,rfl⟩
 rw[hM]at cM z6;rw[hN]at cN z1;simp only at cM cN z6 z1;refine Qp (sl':=[(2,.vptr 0 0),(3,.vptr 1 0),(4,.bool false)]) ?_ (by simp);by_cases hall:em=0/\en=0/\R8 a b=0
 ·obtain⟨rfl,rfl,ho⟩:=hall;rcases z8 m n hM hN ho with⟨s1,rfl,L,s2,s3,s4,s5⟩|⟨w,s1,s2,s3,s4,s5⟩
  ·have cD:=Z5 m m;have cF:=Zj m m ⟨1,L,[]⟩;have cI:=f0e m m;have cR:=v1w m;rw[s2]at cD;rw[s4]at cF;rw[s5]at cI;rw[s1]at cS;have zb:(Wj m.fin.length).length=m.fin.length:=by unfold Wj;simp
   generalize Wj m.fin.length=RL at *;simp only[encA,z2y,c1d,q1x,y2d]at cD cF cI cR cS
   repeat(refine s_ ?_;simp)
   refine pcL (cM) ?_;simp;repeat(refine s_ ?_;simp)
   refine pcL (cN) ?_;simp;repeat(refine s_ ?_;simp)
   refine pcL (cS) ?_;simp;repeat(refine s_ ?_;simp)
   refine Qa rfl (λh=>by simp at h) (λ_=>?_);repeat(refine s_ ?_;simp)
   refine pcL (cD) ?_;simp;repeat(refine s_ ?_;simp)
   refine pcL (cF) ?_;simp;repeat(refine s_ ?_;simp)
   refine Qa rfl (λh=>by simp at h) (λ_=>?_);repeat(refine s_ ?_;simp)
   refine pcL (cI) ?_;simp;repeat(refine s_ ?_;simp)
   refine pcL (cR) ?_;simp;repeat(refine s_ ?_;simp)
   refine Qa rfl (λh=>by simp at h) (λ_=>?_);repeat(refine s_ ?_;simp)
   refine Qa rfl (λh=>by simp at h) (λ_=>?_);refine Qp (sl':=[(4,.bool false),(5,.vptr 2 0),(12,.vptr 4 0),(13,.list (RL.map (AV.int .i64)))]) ?_ (by simp);repeat(refine s_ ?_;simp[zb,s3])
  have cD:=Z5 m n;have cF:=Zj m n ⟨2,[],w⟩;have cI:=f0e m n;have cR:=f03 m n false (by simp[s2]);rw[s3]at cD;rw[s4]at cF;rw[s5]at cI;rw[s1]at cS;simp only[encA,z2y,c1d,q1x,y2d]at cD cF cI cR cS;repeat(refine s_ ?_;simp)
  refine pcL (cM) ?_;simp;repeat(refine s_ ?_;simp)
  refine pcL (cN) ?_;simp;repeat(refine s_ ?_;simp)
  refine pcL (cS) ?_;simp;repeat(refine s_ ?_;simp)
  refine Qa rfl (λh=>by simp at h) (λ_=>?_);repeat(refine s_ ?_;simp)
  refine pcL (cD) ?_;simp;repeat(refine s_ ?_;simp)
  refine pcL (cF) ?_;simp;repeat(refine s_ ?_;simp)
  refine Qa rfl (λh=>by simp at h) (λ_=>?_);repeat(refine s_ ?_;simp)
  refine pcL (cI) ?_;simp;repeat(refine s_ ?_;simp)
  refine pcL (cR) ?_;simp;repeat(refine s_ ?_;simp)
  refine Qa rfl (λh=>by simp at h) (λ_=>?_);repeat(refine s_ ?_;simp)
  refine Qa rfl (λ_=>?_) (λh=>by simp at h);repeat(refine s_ ?_;simp)
  refine pcL (u0y w w) ?_;simp;repeat(refine s_ ?_;simp)
 obtain⟨⟨⟨x,d⟩,g⟩,hX⟩:∃Z,Vz a b=Z:=⟨_,rfl⟩
 rw[hX]at cS;simp only[q1x]at cS;have hg:em=0->en=0->g=5:=λe1 e2=>by have ho:R8 a b≠0:=λk=>hall ⟨e1,e2,k⟩;have:=za ho;rw[hX]at this;have h2:=congrArg (·.2) this;simp only at h2;omega
 repeat(refine s_ ?_;simp)
 refine pcL (cM) ?_;simp;repeat(refine s_ ?_;simp)
 refine pcL (cN) ?_;simp;repeat(refine s_ ?_;simp)
 refine pcL (cS) ?_;simp;refine Qp (sl':=[(4,.bool false),(6,.i em),(8,.i en),(11,.i g)]) ?_ (by simp);rcases z6 with rfl|rfl
 ·rcases z1 with rfl|rfl
  ·have zc:=hg rfl rfl;subst zc;repeat(refine s_ ?_;simp)
   refine Qa rfl (λ_=>?_) (λh=>by simp at h);repeat(refine s_ ?_;simp)
  repeat(refine s_ ?_;simp)
  refine Qa rfl (λ_=>?_) (λh=>by simp at h);repeat(refine s_ ?_;simp)
 rcases z1 with rfl|rfl
 ·repeat(refine s_ ?_;simp)
  refine Qa rfl (λ_=>?_) (λh=>by simp at h);repeat(refine s_ ?_;simp)
 repeat(refine s_ ?_;simp)
 refine Qa rfl (λ_=>?_) (λh=>by simp at h);repeat(refine s_ ?_;simp)
end
section
open Go Go.Proofs Go.RowKit Go.Proofs.YtjmkolhkojgjpaaGreatDoor
def laidOut:laidOutB prog=true:=by kernel_rfl
def own:ownKnob prog.godebug=none:=by kernel_rfl
def Jm{α:Type}{g:α->AV}{Q:α->Prop}:∀xs:List AV,(∀x∈xs,∃a,x=g a/\Q a)->∃l:List α,xs=l.map g/\∀a∈l,Q a
 |[],_=>⟨[],rfl,by simp⟩
 |x::xs,h=>by obtain⟨a,rfl,ha⟩:=h x (by simp);obtain⟨l,rfl,hl⟩:=Jm xs (λy hy=>h y (by simp[hy]));exact⟨a::l,rfl,by simpa using⟨ha,hl⟩⟩
def z1d{d:Nat}{zs:List AV}(h:Shp T (d+1) 3 zs):∃n:Int,zs=[.i n]/\ -9223372036854775808<=n/\n<=9223372036854775807:=by simp only[Shp,T3,w0h]at h;obtain⟨n,rfl,h1,h2⟩:=h;exact⟨n,rfl,h1,h2⟩
def q2x{d:Nat}{zs:List AV}(h:Shp T (d+1) 4 zs):∃b:Bool,zs=[.bool b]:=by simp only[Shp,T4,w0h]at h;exact h
def w24{d:Nat}{xs:List AV}(h:Ap T d [] xs):xs=[]:=h
def j2v {l:List (String×DataW Unit)} {w:World} {name:String} {k:IntKind} {zs:List Int} {g:Nat} {t e:TypeId} {n:Nat} (h:laidMetH prog l w) (hl:l.filter (λx=>x.1==name)=[(name,Lib.tabData k zs)])
  (hg:prog.globalNamed name=some g) (z1:(prog.globals[g]?).map (·.type)=some t) (ht:prog.underlying t=some (.array n e)) (he:prog.underlying e=some (.int k)) (z6:prog.cellsOf e=1) (z7:prog.cellsOf t=n):
  g<w.heap.size/\∃t fr,w.heap[g]?=some (.cells (zs.map λz=>Value.int k z).toArray t fr):=by
 have h1:=h.filter (λx=>x.1==name);rw[hl]at h1;have h2:Lib.TabIs prog w name k zs:=Lib.tabIs_of_head hg z1 ht he z6 z7 h1;unfold Lib.TabIs World.var? at h2;rw[hg]at h2;simp only[wL]at h2;cases ho:w.heap[g]? with
 |none=>rw[ho]at h2;simp at h2
 |some o=>rw[ho]at h2;refine⟨(Array.getElem?_eq_some_iff.1 ho).1,?_⟩;cases o<;>simp at h2;rename_i cs t fr;exact⟨t,fr,by rw[h2]⟩
end
section
open Go Go.Proofs Go.RowKit Go.Proofs.YtjmkolhkojgjpaaGreatDoor
def d2u{d:Nat}{zs:List AV}(h:Shp T (d+2) 144 zs):∃v:Iv,zs=(encIv v).cells:=by simp only[Shp,q0k,T3,w0h,z2r,xR,wT]at h;obtain⟨_,_,rfl,⟨a,rfl,ha⟩,_,_,rfl,⟨b,rfl,hb⟩,rfl⟩:=h;exact⟨⟨a,b⟩,rfl⟩
def g2u{d:Nat}{zs:List AV}(h:Shp T (d+3) 145 zs):∃l:List Iv,zs=[encL l]:=by
 rw[Shp,Km]at h;simp only[w0h]at h;obtain⟨ei,xs,he,rfl,hl,hx⟩:=h;rw[q0k]at he;cases he;obtain⟨l,rfl,hq⟩:=Jm (g:=encIv) (Q:=λ_=>True) xs (λx z1=>by
  obtain⟨zs,rfl,hz⟩:=hx x z1;obtain⟨v,rfl⟩:=d2u (d:=d) hz;exact⟨v,rfl,trivial⟩)
 exact⟨l,rfl⟩
def u2p{d:Nat}{zs:List AV}(h:Shp T (d+4) 68 zs):∃p:Prd,zs=[.list (p.map encL)]:=by
 rw[Shp,T68]at h;simp only[w0h]at h;obtain⟨ei,xs,he,rfl,hl,hx⟩:=h;rw[Km]at he;cases he;obtain⟨l,rfl,hq⟩:=Jm (g:=encL) (Q:=λ_=>True) xs (λx z1=>by
  obtain⟨zs,rfl,hz⟩:=hx x z1;obtain⟨v,rfl⟩:=g2u (d:=d) hz;exact⟨v,rfl,trivial⟩)
 exact⟨l,rfl⟩
def u2t{d:Nat}{zs:List AV}(h:Shp T (d+5) 70 zs):∃p:Prd,zs=[.list (p.map encL)]:=by rw[Shp,T70]at h;simp only[w0h,z2r,xR,wT]at h;obtain⟨_,_,rfl,h1,rfl⟩:=h;obtain⟨p,rfl⟩:=u2p (d:=d) h1;exact⟨p,rfl⟩
def u23{d:Nat}{zs:List AV}(h:Shp T (d+6) 73 zs):∃m:Mv,zs=(encMv m).cells:=by rw[Shp,T73]at h;simp only[w0h,z2r,xR,wT]at h;obtain⟨_,_,rfl,h1,_,_,rfl,h2,_,_,rfl,h3,rfl⟩:=h;obtain⟨a,rfl,_⟩:=z1d (d:=d+4) h1;obtain⟨b,rfl,_⟩:=z1d (d:=d+4) h2;obtain⟨p,rfl⟩:=u2t (d:=d) h3;exact⟨⟨a,b,p⟩,rfl⟩
def y2w{d:Nat}{zs:List AV}(h:Shp T (d+7) 23 zs):∃l:List Mv,zs=[.list (l.map encMv)]:=by
 rw[Shp,T23]at h;simp only[w0h]at h;obtain⟨ei,xs,he,rfl,hl,hx⟩:=h;rw[T73]at he;cases he;obtain⟨l,rfl,hq⟩:=Jm (g:=encMv) (Q:=λ_=>True) xs (λx z1=>by
  obtain⟨zs,rfl,hz⟩:=hx x z1;obtain⟨v,rfl⟩:=u23 (d:=d) hz;exact⟨v,rfl,trivial⟩)
 exact⟨l,rfl⟩
def y2t{d:Nat}{zs:List AV}(h:Shp T (d+2) 22 zs):∃l:List Bool,zs=[.list (l.map .bool)]:=by
 rw[Shp,T22]at h;simp only[w0h]at h;obtain⟨ei,xs,he,rfl,hl,hx⟩:=h;rw[T4]at he;cases he;obtain⟨l,rfl,hq⟩:=Jm (g:=AV.bool) (Q:=λ_=>True) xs (λx z1=>by
  obtain⟨zs,rfl,hz⟩:=hx x z1;obtain⟨v,rfl⟩:=q2x (d:=d) hz;exact⟨v,rfl,trivial⟩)
 exact⟨l,rfl⟩
def d2e{d:Nat}{zs:List AV}(h:Shp T (d+8) 25 zs):∃a:Aut,zs=(encA a).cells:=by rw[Shp,T25]at h;simp only[w0h,z2r,xR,wT]at h;obtain⟨_,_,rfl,h1,_,_,rfl,h2,_,_,rfl,h3,rfl⟩:=h;obtain⟨t,rfl,_⟩:=z1d (d:=d+6) h1;obtain⟨f,rfl⟩:=y2t (d:=d+5) h2;obtain⟨m,rfl⟩:=y2w (d:=d) h3;exact⟨⟨t,f,m⟩,rfl⟩
def c1r{d:Nat}{ts:List Nat}{xs:List AV}(h:Ap T (d+8) (25::ts) xs):∃(a:Aut) (r:List AV),xs=encA a::r/\Ap T (d+8) ts r:=by obtain⟨i,zs,r,hi,rfl,h1,h⟩:=h;rw[T25]at hi;cases hi;obtain⟨a,rfl⟩:=d2e (d:=d) h1;exact⟨a,r,rfl,h⟩
def k2y {l:List (String×DataW Unit)} {w:World} (h:laidMetH prog l w) (hl:l.filter (λx=>x.1== "internal/strconv.uint64pow10")=[("internal/strconv.uint64pow10",Lib.tabData .u64 Lib.pow10Tab)]):EOK prog w (·<w.heap.size):=λg pr hm=>by
 have e:=List.mem_singleton.1 hm
 cases e
 obtain⟨h1,t,fr,h2⟩:=j2v (t:=355) (e:=258) (n:=20) h hl (by kernel_rfl) (by kernel_rfl) (by kernel_rfl) (by kernel_rfl) (by kernel_rfl) (by kernel_rfl)
 exact⟨h1,_,t,fr,rfl,h2⟩
end
end Go.Abs
