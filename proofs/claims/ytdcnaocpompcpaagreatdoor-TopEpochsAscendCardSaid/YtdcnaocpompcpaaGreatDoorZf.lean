/- Part Zf of the proof: steps on the way to the last part. No condition. -/
import Derived.Test.YtdcnaocpompcpaaGreatDoorZe
import Derived.Test.YtdcnaocpompcpaaGreatDoorZc
import Derived.Test.YtdcnaocpompcpaaGreatDoorZb
import Derived.Lib.Zigzag
import Derived.Lib.VarintBits
set_option linter.all false
open Bool renaming eq_false_iff->yF,or_eq_true->yE,and_eq_true->zX
open List renaming isPrefixOf_iff_prefix->xh,prefix_append->u7,append_cancel_left->we,getElem?_append_left->zK,getElem?_eq_some_iff->zD,getElem?_set_ne->zI,append_assoc->yL,getElem?_set_self->zJ,getElem?_concat_length->w8,take_succ_eq_append_getElem->yI,flatMap_append->wm,take_append_drop->yN,length_append->zL,range->xV,map->wO,getElem_mem->yB,take_length->yV,foldl_nil->vk,take_of_length_le->zY,drop_eq_getElem_cons->yU,mem_cons->y_,not_mem_nil->uk,append_nil->xY
open Int renaming eq_ofNat_of_zero_le->xR,fdiv_eq_ediv_of_nonneg->w9
open Nat renaming le_refl->zR,le_trans->yD,lt_of_lt_of_le->yZ,xor_zero->uK,pow_add->uA,zero_le->yO,pow_le_pow_right->w_,mod_eq_of_lt->wn,mul_le_mul_right->zZ
set_option maxHeartbeats 2000000
set_option linter.unusedSimpArgs false
set_option maxRecDepth 100000
open Go.Proofs.Tryz
namespace Go.Abs
open Go Go.Proofs
def Jm(n:Int):PC prog 64 [.i n] (λr=>r= .i (W1 n)):=by
 refine pcB func64 results64 ntmps64 ?_;simp only[Qf];rw[W1];repeat(refine s_ ?_;simp)
 by_cases h0:n<1\/1099511627776<n
 ·rw[if_pos h0];refine Qb rfl (λh=>?_) (λh=>by exfalso;rw[yF]at h;apply h;simpa only[yE,decide_eq_true_eq]using h0);repeat(refine s_ ?_;simp)
 rw[if_neg h0];refine Qb rfl (λh=>by exfalso;apply h0;simpa only[yE,decide_eq_true_eq]using h) (λh=>?_);repeat(refine s_ ?_;simp)
def Tk(n:Int):W1 n=0↔1<=n/\n<=1099511627776:=by unfold W1;split<;>omega
def v0n(s p:List UInt8):List UInt8×Bool:=if p.isPrefixOf s=true then(s.drop p.length,true)else(s,false)
def k09(s p:List UInt8)(hs:s.length<=1000000000)(hp:p.length<=1000000000):PC prog 181 [.str s,.str p] (λr=>r= .tup [.str (v0n s p).1,.bool (v0n s p).2]):=by
 refine pcB func181 results181 ntmps181 ?_;simp only[Qf];obtain⟨R,hR⟩:∃R,v0n s p=R:=⟨_,rfl⟩
 rw[hR];rw[v0n]at hR;repeat(refine s_ ?_;simp)
 refine pcL (v1o s p (by omega) (by omega)) ?_;simp;repeat(refine s_ ?_;simp)
 by_cases hv:p.isPrefixOf s=true
 ·rw[if_pos hv]at hR;refine Qb rfl (λh=>by simp[hv]at h) (λh=>?_);rw[xh]at hv;have hl:=hv.length_le;have hl':(p.length:Int)<=s.length:=by omega
  repeat(refine s_ ?_;simp[hl,hl'])
  rw[<-hR];exact⟨rfl,rfl⟩
 rw[if_neg hv]at hR;refine Qb rfl (λh=>?_) (λh=>by simp[hv]at h);repeat(refine s_ ?_;simp)
 rw[<-hR];exact⟨rfl,rfl⟩
def Kh(s p:List UInt8)(hs:s.length<=1000000000)(hp:p.length<=1000000000):PC prog 140 [.str s,.str p] (λr=>r= .tup [.str (v0n s p).1,.bool (v0n s p).2]):=by
 refine pcB func140 results140 ntmps140 ?_;simp only[Qf];repeat(refine s_ ?_;simp)
 refine pcL (k09 s p hs hp) ?_;simp;repeat(refine s_ ?_;simp)
def C0(p s:List UInt8)(hs:s.length<=1000000000)(hp:p.length<=1000000000):PC prog 109 [.str p,.str s] (λr=>r= .tup [.i (Ra p s).1,.bool (Ra p s).2]):=by
 refine pcB func109 results109 ntmps109 ?_;simp only[Qf];obtain⟨R,hR⟩:∃R,Ra p s=R:=⟨_,rfl⟩
 rw[hR];repeat(refine s_ ?_;simp)
 refine pcL (Kh s p hs hp) ?_;simp;repeat(refine s_ ?_;simp)
 by_cases hv:p.isPrefixOf s=true
 ·rw[xh]at hv;obtain⟨t,rfl⟩:=hv;have hc:v0n (p++t) p=(t,true):=by rw[v0n,if_pos (by rw[xh];exact u7 _ _)];simp
  rw[hc];have zb:t.length<=1000000000:=by simp at hs;omega
  simp;refine pcL (y0x t zb) ?_;simp;rw[Gk];cases ha:Lib.atoiAll t with
  |ok v=>
   simp only;repeat(refine s_ ?_;simp)
   refine Nk (b:=false) tOk rfl rfl rfl x1x rfl rfl ?_;simp;refine pcL (Jm v) ?_;simp;by_cases hv:W1 v=0
   ·have za:=(Tk v).1 hv;have z8:(W1 v != 0)=false:=by simp[hv]
    have z1:(W1 v==0)=true:=by simp[hv]
    simp[z8,z1,hv];refine pcL (Av v (by omega) (by omega)) ?_;simp;repeat(refine s_ ?_;simp)
    by_cases hi:Lib.itoa v=t
    ·refine Qb rfl (λh=>by simp[hi]at h) (λh=>?_);repeat(refine s_ ?_;simp)
     rw[w03 za.1 za.2 hi]at hR;rw[<-hR];exact⟨rfl,rfl⟩
    refine Qb rfl (λh=>?_) (λh=>by simp[hi]at h);repeat(refine s_ ?_;simp)
    rw[Y8]at hR
    ·rw[<-hR];exact⟨rfl,rfl⟩
    intro u h1 h2 h3;have h4:=we h3;obtain⟨m,rfl⟩:=xR (show(0:Int)<=u by omega);rw[Lib.itoa_nonneg]at h4;rw[h4,S7 m (by omega)]at ha;injection ha with ha
    apply hi;rw[h4,<-ha,Lib.itoa_nonneg]
   have z8:(W1 v != 0)=true:=by simp[hv]
   have z1:(W1 v==0)=false:=by simp[hv]
   simp[z8,z1,hv];repeat(refine s_ ?_;simp[z8,z1,hv])
   refine Wp (by simp[hv]) rfl ?_;simp[z8,z1,hv];repeat(refine s_ ?_;simp)
   refine Qb rfl (λh=>?_) (λh=>by simp[hv]at h);repeat(refine s_ ?_;simp)
   rw[Y8]at hR
   ·rw[<-hR];exact⟨rfl,rfl⟩
   intro u h1 h2 h3;have h4:=we h3;obtain⟨m,rfl⟩:=xR (show(0:Int)<=u by omega);rw[Lib.itoa_nonneg]at h4;rw[h4,S7 m (by omega)]at ha;injection ha with ha
   rw[<-ha]at hv;exact hv ((Tk _).2 ⟨by omega,by omega⟩)
  |range=>
   simp only;repeat(refine s_ ?_;simp)
   refine A5 (b:=true) tOk rfl rfl rfl x1x rfl rfl ?_;simp;refine Wp rfl rfl ?_;simp;refine Wp rfl rfl ?_;simp;repeat(refine s_ ?_;simp)
   refine Qh rfl ?_;repeat(refine s_ ?_;simp)
   rw[Y8]at hR
   ·rw[<-hR];exact⟨rfl,rfl⟩
   intro u h1 h2 h3;have h4:=we h3;obtain⟨m,rfl⟩:=xR (show(0:Int)<=u by omega);rw[Lib.itoa_nonneg]at h4;rw[h4,S7 m (by omega)]at ha;cases ha
  |_=>
   simp only;repeat(refine s_ ?_;simp)
   refine A5 (b:=true) tOk rfl rfl rfl x1x rfl rfl ?_;simp;refine Wp rfl rfl ?_;simp;refine Wp rfl rfl ?_;simp;repeat(refine s_ ?_;simp)
   refine Qh rfl ?_;repeat(refine s_ ?_;simp)
   rw[Y8]at hR
   ·rw[<-hR];exact⟨rfl,rfl⟩
   intro u h1 h2 h3;have h4:=we h3;obtain⟨m,rfl⟩:=xR (show(0:Int)<=u by omega);rw[Lib.itoa_nonneg]at h4;rw[h4,S7 m (by omega)]at ha;cases ha
 have hc:v0n s p=(s,false):=by rw[v0n,if_neg hv]
 rw[hc];simp;refine pcL (y0x s hs) ?_;simp;rw[Y8 (λu _ _ h=>by rw[h]at hv;apply hv;rw[xh];exact u7 _ _)]at hR;rw[Gk];cases ha:Lib.atoiAll s with
 |ok v=>
  simp;repeat(refine s_ ?_;simp)
  refine Wp rfl rfl ?_;simp;refine Wp rfl rfl ?_;simp;repeat(refine s_ ?_;simp)
  refine Qh rfl ?_;repeat(refine s_ ?_;simp)
  rw[<-hR];exact⟨rfl,rfl⟩
 |range=>
  simp;repeat(refine s_ ?_;simp)
  refine Wp rfl rfl ?_;simp;refine Wp rfl rfl ?_;simp;repeat(refine s_ ?_;simp)
  refine Qh rfl ?_;repeat(refine s_ ?_;simp)
  rw[<-hR];exact⟨rfl,rfl⟩
 |_=>
  simp;repeat(refine s_ ?_;simp)
  refine Wp rfl rfl ?_;simp;refine Wp rfl rfl ?_;simp;repeat(refine s_ ?_;simp)
  refine Qh rfl ?_;repeat(refine s_ ?_;simp)
  rw[<-hR];exact⟨rfl,rfl⟩
def w07(s:List UInt8)(hs:s.length<=1000000000):PC prog 75 [.str s] (λr=>r= .tup [.i (Ra Cp s).1,.bool (Ra Cp s).2]):=by
 refine pcB func75 results75 ntmps75 ?_;simp only[Qf];repeat(refine s_ ?_;simp)
 refine pcL (C0 Cp s hs (by decide)) ?_;simp;repeat(refine s_ ?_;simp)
def Ag(n:Nat)(o:Option Nat):AV:=match o with|none=> .nils|some p=> .sl p 1 0 n
def wX(n:Nat)(e:Int)(o:Option Nat):AObj:= .vars [Ag n o,.i e]
def WA(H:List AObj)(q:Nat)(out:List UInt8)(e:Int)(o:Option Nat):Prop:=
 H[q]?=some (wX out.length e o)/\match o with|none=>out=[]|some p=>H[p]?=some (.arr 5 1 (out.map byteAV))/\p≠q
def Fr(H H':List AObj)(q:Nat)(o o':Option Nat):Prop:=
 H.length<=H'.length/\(o'=o\/∃p,o'=some p/\H.length<=p)/\∀j,j<H.length->j≠q->some j≠o->H'[j]? =H[j]?
def Fr.refl(H:List AObj)(q:Nat)(o:Option Nat):Fr H H q o o:=⟨zR _,.inl rfl,λ_ _ _ _=>rfl⟩
def Fr.trans{H H1 H2:List AObj}{q:Nat}{o o1 o2:Option Nat}(a:Fr H H1 q o o1)(b:Fr H1 H2 q o1 o2):Fr H H2 q o o2:=by
 refine⟨yD a.1 b.1,?_,λj hj h1 h2=>?_⟩
 ·rcases b.2.1 with h|⟨p,h,hp⟩
  ·rw[h];exact a.2.1
  exact .inr ⟨p,h,yD a.1 hp⟩
 rw[b.2.2 j (yZ hj a.1) h1,a.2.2 j hj h1 h2];rcases a.2.1 with h|⟨p,h,hp⟩
 ·rw[h];exact h2
 rw[h];intro e;cases e;omega
def Fr.cut{H G H':List AObj}{q:Nat}{o o':Option Nat}(a:Fr (H++G) H' q o o'):Fr H H' q o o':=
 ⟨by have:=a.1;simp at this;omega,by
  rcases a.2.1 with h|⟨p,h,hp⟩
  ·exact .inl h
  exact .inr ⟨p,h,by simp at hp;omega⟩,λj hj h1 h2=>by rw[a.2.2 j (by simp;omega) h1 h2,zK hj]⟩
def WA.lt{H:List AObj}{q:Nat}{out:List UInt8}{e:Int}{o:Option Nat}(h:WA H q out e o):q<H.length:=(zD.1 h.1).1
def WA.olt{H:List AObj}{q:Nat}{out:List UInt8}{e:Int}{o:Option Nat}(h:WA H q out e o){p:Nat}(hp:o=some p):p<H.length:=by subst hp;exact(zD.1 h.2.1).1
def WA.app{H:List AObj}{q:Nat}{out:List UInt8}{e:Int}{o:Option Nat}(h:WA H q out e o)(G:List AObj):WA (H++G) q out e o:=by
 refine⟨Qc h.1 G,?_⟩;have:=h.2;cases o with
 |none=>exact this
 |some p=>exact⟨Qc this.1 G,this.2⟩
def WP(H:List AObj)(q:Nat)(o:Option Nat)(out:List UInt8)(e:Int)(bs:List UInt8)(er:Int)(r:AV)(H':List AObj):Prop:=
 r= .tup []/\∃out' o',WA H' q out' (orE e er) o'/\Fr H H' q o o'/\out'.length<=out.length+bs.length/\(orE e er=0->out'=out++bs)
def Wd(a b c:Int):orE (orE a b) c=orE a (orE b c):=by unfold orE;by_cases h:a=0<;>simp[h]
def Rc(a:Int):orE a 0=a:=by unfold orE;split<;>simp_all
def y0c(a:Int):orE 0 a=a:=by simp[orE]
def u0i{a b:Int}(h:orE a b=0):a=0:=(T6 h).1
def WA.err{H:List AObj}{q:Nat}{out:List UInt8}{e:Int}{o:Option Nat}(h:WA H q out e o)(e':Int):WA (H.set q (wX out.length e' o)) q out e' o:=by
 refine⟨Qe h.1 _,?_⟩;have:=h.2;cases o with
 |none=>exact this
 |some p=>exact⟨Qa (λx=>this.2 x.symm) this.1 _,this.2⟩
def Fr.set(H:List AObj)(q:Nat)(o:Option Nat)(x:AObj):Fr H (H.set q x) q o o:=⟨by simp,.inl rfl,λj _ h1 _=>zI (λe=>h1 e.symm)⟩
def WI(H:List AObj)(q:Nat)(o:Option Nat)(out:List UInt8)(e:Int)(bs:List UInt8)(r:AV)(H':List AObj):Prop:=
 r= .tup []/\∃o',WA H' q (out++bs) e o'/\Fr H H' q o o'/\(bs≠[]->o'≠none)
def WI.wp{H:List AObj}{q:Nat}{o:Option Nat}{out:List UInt8}{e:Int}{bs:List UInt8}{r:AV}{H':List AObj}(h:WI H q o out e bs r H'):WP H q o out e bs 0 r H':=by obtain⟨h1,o',h2,h3,_⟩:=h;exact⟨h1,_,o',by rw[Rc];exact h2,h3,by simp,λ_=>rfl⟩
def WP.trans {H H1 H2:List AObj} {q:Nat} {o o1:Option Nat} {out out1:List UInt8} {e:Int} {b1 b2:List UInt8} {r1 r2:Int} {r:AV} (hf:Fr H H1 q o o1) (hl:out1.length<=out.length+b1.length) (ho:orE e r1=0->out1=out++b1)
  (h:WP H1 q o1 out1 (orE e r1) b2 r2 r H2):WP H q o out e (b1++b2) (orE r1 r2) r H2:=by
 obtain⟨h1,out2,o2,h2,h3,h4,h5⟩:=h;rw[Wd]at h2 h5;refine⟨h1,out2,o2,h2,hf.trans h3,by simp;omega,λh=>?_⟩;rw[h5 h,ho (u0i (b:=r2) (by rw[Wd];exact h)),yL]
def WP.cut{H G H':List AObj}{q:Nat}{o:Option Nat}{out:List UInt8}{e:Int}{b:List UInt8}{x:Int}{r:AV}(h:WP (H++G) q o out e b x r H'):WP H q o out e b x r H':=by obtain⟨h1,out2,o2,h2,h3,h4,h5⟩:=h;exact⟨h1,out2,o2,h2,h3.cut,h4,h5⟩
def z0r{H:List AObj}{q:Nat}{out:List UInt8}{e:Int}{o:Option Nat}(h:WA H q out e o)(A:AObj)(bs:List UInt8)(H1:List AObj)(z1:H1=match o with|none=>H++[A]|some p=>(H++[A]).set p .dead):
  WA ((H1++[AObj.arr 5 1 ((out++bs).map byteAV)]).set q (wX (out++bs).length e (some (H.length+1)))) q (out++bs) e (some (H.length+1))/\
  Fr H ((H1++[AObj.arr 5 1 ((out++bs).map byteAV)]).set q (wX (out++bs).length e (some (H.length+1)))) q o (some (H.length+1)):=by
 have hq:=h.lt;have hl:H1.length=H.length+1:=by rw[z1];cases o<;>simp
 refine⟨⟨?_,?_,by omega⟩,by simp;omega,.inr ⟨_,rfl,by omega⟩,λj hj h1 h2=>?_⟩
 ·rw[zJ (by simp;omega)]
 ·rw[zI (by omega),<-hl,w8]
 rw[zI (λx=>h1 x.symm),zK (by omega),z1];cases o with
 |none=>exact zK hj
 |some p=>simp only;rw[zI (λx=>h2 (by rw[x])),zK hj]
def c0p{H:List AObj}{q:Nat}{out:List UInt8}{e:Int}{p:Nat}(h:WA H q out e (some p))(bs:List UInt8):
  WA ((H.set p .dead++[AObj.arr 5 1 ((out++bs).map byteAV)]).set q (wX (out++bs).length e (some H.length))) q (out++bs) e (some H.length)/\
  Fr H ((H.set p .dead++[AObj.arr 5 1 ((out++bs).map byteAV)]).set q (wX (out++bs).length e (some H.length))) q (some p) (some H.length):=by
 have hq:=h.lt;have hl:(H.set p .dead).length=H.length:=by simp
 refine⟨⟨?_,?_,by omega⟩,by simp,.inr ⟨_,rfl,by omega⟩,λj hj h1 h2=>?_⟩
 ·rw[zJ (by simp;omega)]
 ·rw[zI (by omega)];have:=w8 (l:=H.set p .dead) (a:=AObj.arr 5 1 ((out++bs).map byteAV));rw[hl]at this;exact this
 rw[zI (λx=>h1 x.symm),zK (by omega),zI (λx=>h2 (by rw[x]))]
attribute [irreducible] Ag
def Ad(n:Nat):Ag n none= .nils:=by unfold Ag;rfl
def R1(n p:Nat):Ag n (some p)= .sl p 1 0 n:=by unfold Ag;rfl
def W9{α:Type}(f:α->Int):∀(a b:List α),We f (a++b)=orE (We f a) (We f b)
 |[],b=>by rw[List.nil_append,We,y0c]
 |x::a,b=>by rw[List.cons_append,We,We,W9 f a b,Wd]
def Ef{α:Type}(f:α->Int)(l:List α)(j:Nat)(h:j<l.length):We f (l.take (j+1))=orE (We f (l.take j)) (f l[j]):=by rw[yI h,W9,We,We,Rc]
def U0{a b:Int}(h:a≠0):orE a b=a:=by rw[orE,if_pos h]
def Qv{α:Type}(f:α->List UInt8)(l:List α)(j:Nat)(h:j<l.length):(l.take (j+1)).flatMap f=(l.take j).flatMap f++f l[j]:=by rw[yI h,wm];simp
def Ed{α:Type}(f:α->List UInt8)(l:List α)(j:Nat):((l.take j).flatMap f).length<=(l.flatMap f).length:=by
 conv=>rhs;rw[<-yN j l,wm,zL]
 omega
def Ru(H:List AObj)(q:Nat)(o:Option Nat)(out:List UInt8)(e x:Int)(hw:WA H q out e o):FC prog 120 [.vptr q 0,.i x] H (λr H'=>r= .tup []/\H'=H.set q (wX out.length (orE e x) o)):=by
 refine fcB func120 results120 ntmps120 ?_;simp only[Qf];have h0:H[q]?=some (.vars [Ag out.length o,.i e]):=hw.1;repeat(refine s_ ?_;simp[h0])
 refine Qb rfl (λh=>?_) (λh=>?_)
 ·have h':e=0:=by simpa using h
  subst h';repeat(refine s_ ?_;simp[h0])
  rw[y0c];rfl
 have h':e≠0:=by simpa using h
 repeat(refine s_ ?_;simp)
 rw[U0 h'];exact(Z1 h0).symm
def c0x(n:Int)(h:i64 n):zig n<18446744073709551616:=by obtain⟨h1,h2⟩:=h;unfold zig;split<;>omega
def k0h(n:Int)(h:i64 n):bits .xor .u64 (IntKind.u64.wrap (IntKind.i64.wrap (n * 2 ^ min 1 IntKind.i64.bits))) (IntKind.u64.wrap (n.fdiv (2 ^ min 63 IntKind.i64.bits)))=(zig n:Int):=by
 obtain⟨h1,h2⟩:=h;have e1:(2:Int) ^ min 1 IntKind.i64.bits=2:=by decide
 have e2:(2:Int) ^ min 63 IntKind.i64.bits=9223372036854775808:=by decide
 rw[e1,e2,w9 _ (by omega)];unfold zig;split
 ·rename_i h0;have d:n / 9223372036854775808=0:=by omega
  have w:IntKind.u64.wrap (IntKind.i64.wrap (n * 2))=((2 * n).toNat:Int):=by rw[IntKind.wrap_u64,IntKind.wrap_i64];omega
  rw[d,w,show IntKind.u64.wrap 0=((0:Nat):Int) by decide,bits_xor_u64_nat _ _ (by omega) (by omega),uK]
 rename_i h0;have d:n / 9223372036854775808= -1:=by omega
 have w:IntKind.u64.wrap (IntKind.i64.wrap (n * 2))=((2 * n+18446744073709551616).toNat:Int):=by rw[IntKind.wrap_u64,IntKind.wrap_i64];omega
 rw[d,w,show IntKind.u64.wrap (-1)=((2 ^ 64 - 1:Nat):Int) by decide,bits_xor_u64_nat _ _ (by omega) (by decide),Nat.xor_comm,Lib.xor_ones64 _ (by omega)];omega
def z0g:(xV 256).all (λn=>bits .or .u8 n 128==((n % 128+128:Nat):Int))=true:=by kernel_rfl
def u1r(u:Nat):bits .or .u8 (IntKind.u8.wrap u) 128=((u % 128+128:Nat):Int):=by
 have h:=List.all_eq_true.1 z0g (u % 256) (List.mem_range.2 (by omega));have e:IntKind.u8.wrap (u:Int)=((u % 256:Nat):Int):=by simp[IntKind.wrap,IntKind.bits,IntKind.signed]
 rw[e,eq_of_beq h]
 congr 2
 omega
def u18(u:Nat):(u:Int).fdiv (2 ^ min 7 IntKind.u64.bits)=((u / 128:Nat):Int):=by
 have e2:(2:Int) ^ min 7 IntKind.u64.bits=128:=by decide
 rw[e2,w9 _ (by omega)];omega
def V5(n:Nat)(h:n<256):byteAV (UInt8.ofNat n)= .int .u8 n:=by simp[byteAV];omega
def Cy(u:Nat)(h:u<256):IntKind.u8.wrap (u:Int)=u:=by simp[IntKind.wrap,IntKind.bits,IntKind.signed];omega
def Wk(H:List AObj)(q:Nat)(o:Option Nat)(out:List UInt8)(e n:Int)(hn:i64 n)(hw:WA H q out e o)(hb:out.length+(Wm n).length<=1000000000):FC prog 122 [.vptr q 0,.i n] H (WI H q o out e (Wm n)):=by
 refine fcB func122 results122 ntmps122 ?_;simp only[Qf];repeat(refine s_ ?_;simp)
 refine Qk (Qg (sl':=[(0,.vptr q 0),(4,.int .u64 (zig n))]) ?_ (by simp[k0h n hn]));refine Qp (F:=λ(u:Nat×Nat×List UInt8×Option Nat×List AObj)=>⟨[(0,.vptr q 0),(4,.int .u64 u.2.1)],u.2.2.2.2⟩)
  (λu=>WA u.2.2.2.2 q u.2.2.1 e u.2.2.2.1/\Fr H u.2.2.2.2 q o u.2.2.2.1/\u.2.2.1++w0c (u.1+1) u.2.1=out++Wm n/\u.1<=9/\u.2.1<2 ^ (7 * u.1+1)) (λu=>u.1) ?_ (9,zig n,out,o,H) ⟨hw,Fr.refl ..,rfl,zR _,by have:=c0x n hn;simpa using this⟩
 rintro⟨k,u,t,p,G⟩ ⟨g1,g2,g3,g4,g5⟩ ih;simp only at g1 g2 g3 g4 g5 ih |-;have hlen:t.length+(w0c (k+1) u).length=out.length+(Wm n).length:=by rw[<-zL,<-zL,g3]
 have g0:G[q]?=some (.vars [Ag t.length p,.i e]):=g1.1;repeat(refine s_ ?_;simp)
 refine Qb rfl (λh=>?_) (λh=>?_)
 ·have hu:128<=u:=by simp at h;omega
  cases k with
  |zero=>simp at g5;omega
  |succ k=>
   rw[w0c,if_neg (by omega)]at g3 hlen;have za:t.length<=1000000000:=by omega
   have z1:(.int .u8 (bits .or .u8 (IntKind.u8.wrap (u:Int)) 128):AV)=byteAV (UInt8.ofNat (u % 128+128)):=by rw[V5 _ (by omega),u1r]
   obtain⟨c,hc⟩:∃c,UInt8.ofNat (u % 128+128)=c:=⟨_,rfl⟩
   rw[hc]at z1 g3 hlen;have zb:=ih (k,u / 128,t++[c],_,_) ⟨(z0r g1 (.arr 5 1 [byteAV c]) [c] _ rfl).1,g2.trans (z0r g1 (.arr 5 1 [byteAV c]) [c] _ rfl).2,by rw[yL];exact g3,by omega,by
    have:7 * (k+1)+1=(7 * k+1)+7:=by omega
    rw[this,uA]at g5;show u / 128<2 ^ (7 * k+1);omega⟩ (by simp only;omega)
   cases p with
   |none=>
    obtain rfl:t=[]:=g1.2;rw[Ad]at g0;repeat(refine s_ ?_;simp[g0])
    rw[z1];have z8:∀A B:AObj,(G++[A,B])[q]?=some (.vars [.nils,.i e]):=λA B=>Qc g0 _;refine apS T22 T5 ?_;simp[z8];refine⟨by simp[Em,z8]<;>omega,?_⟩;repeat(refine s_ ?_;simp[z8,u18])
    simp[wX,R1]at zb;exact Qg zb (by simp)
   |some p=>
    rw[R1]at g0;have g6:=g1.2.1;repeat(refine s_ ?_;simp[g0])
    rw[z1];have b6:∀A:AObj,(G++[A])[p]?=some (AObj.arr 5 1 (wO byteAV t)):=λA=>Qc g6 _;have b0:∀A B:AObj,((G++[A]).set p .dead++[B])[q]?=some (.vars [.sl p 1 0 t.length,.i e]):=λA B=>Qc (Qa g1.2.2 (Qc g0 _) _) _;refine apS T22 T5 ?_;simp[b6,b0,za];refine⟨by simp[Em,b6,b0,za]<;>omega,?_⟩;repeat(refine s_ ?_;simp[b6,b0,u18])
    simp[wX,R1]at zb;exact Qg zb (by simp)
 have hu:u<128:=by simp at h;omega
 rw[w0c,if_pos hu]at g3 hlen;have za:t.length<=1000000000:=by omega
 have z1:(.int .u8 (IntKind.u8.wrap (u:Int)):AV)=byteAV (UInt8.ofNat u):=by rw[V5 _ (by omega),Cy _ (by omega)]
 obtain⟨c,hc⟩:∃c,UInt8.ofNat u=c:=⟨_,rfl⟩
 rw[hc]at z1 g3 hlen;have key:=z0r g1 (.arr 5 1 [byteAV c]) [c] _ rfl;cases p with
 |none=>
  obtain rfl:t=[]:=g1.2;rw[Ad]at g0;repeat(refine s_ ?_;simp[g0])
  rw[z1];have z8:∀A B:AObj,(G++[A,B])[q]?=some (.vars [.nils,.i e]):=λA B=>Qc g0 _;refine apS T22 T5 ?_;simp[z8];refine⟨by simp[Em,z8]<;>omega,?_⟩;repeat(refine s_ ?_;simp[z8])
  simp[wX,R1]at key;have zc:[c]=out++Wm n:=by simpa using g3
  refine⟨rfl,some (G.length+1),?_,g2.trans ?_,by simp⟩
  ·rw[<-zc];exact key.1
  exact key.2
 |some p=>
  rw[R1]at g0;have g6:=g1.2.1;repeat(refine s_ ?_;simp[g0])
  rw[z1];have b6:∀A:AObj,(G++[A])[p]?=some (AObj.arr 5 1 (wO byteAV t)):=λA=>Qc g6 _;have b0:∀A B:AObj,((G++[A]).set p .dead++[B])[q]?=some (.vars [.sl p 1 0 t.length,.i e]):=λA B=>Qc (Qa g1.2.2 (Qc g0 _) _) _;refine apS T22 T5 ?_;simp[b6,b0,za];refine⟨by simp[Em,b6,b0,za]<;>omega,?_⟩;repeat(refine s_ ?_;simp[b6,b0])
  simp[wX,R1]at key;refine⟨rfl,some (G.length+1),?_,g2.trans ?_,by simp⟩
  ·rw[<-g3];exact key.1
  exact key.2
section
def X0(n:Int):Wm n≠[]:=λh=>by have:=V8 n;rw[h]at this;simp at this
def Fr.keep{H H':List AObj}{q j:Nat}{o o':Option Nat}{x:AObj}(a:Fr H H' q o o')(h:H[j]?=some x)(h1:j≠q)(h2:some j≠o):H'[j]?=some x:=by rw[a.2.2 j (zD.1 h).1 h1 h2];exact h
def Fr.own{H H':List AObj}{q j:Nat}{o o':Option Nat}(a:Fr H H' q o o')(h1:j<H.length)(h2:some j≠o):some j≠o':=by
 rcases a.2.1 with h|⟨p,h,hp⟩
 ·rw[h];exact h2
 rw[h];intro e;cases e;omega
def Pw(l:List Int)(hl:l.length<=1000000)(hi:∀n∈l,i64 n)(H:List AObj)(q:Nat)(o:Option Nat)(out:List UInt8)(e:Int)(s:Nat)(hw:WA H q out e o)(hs:H[s]?=some (.arr 3 1 (l.map encI)))(z8:s≠q)(za:some s≠o)(hb:out.length+(l.flatMap Wm).length<=1000000000):
  FC prog 163 [.vptr q 0,.sl s 1 0 l.length] H (WI H q o out e (l.flatMap Wm)):=by
 refine fcB func163 results163 ntmps163 ?_;simp only[Qf];repeat(refine s_ ?_;simp)
 refine Qk (Qg (sl':=[(0,.vptr q 0),(6,.sl s 1 0 l.length),(7,.i l.length),(8,.i 0)]) ?_ (by simp));refine Qp (F:=λ(u:Nat×Option Nat×List AObj)=>⟨[(0,.vptr q 0),(6,.sl s 1 0 l.length),(7,.i l.length),(8,.i u.1)],u.2.2⟩)
  (λu=>WA u.2.2 q (out++(l.take u.1).flatMap Wm) e u.2.1/\Fr H u.2.2 q o u.2.1/\u.1<=l.length/\(0<u.1->u.2.1≠none)) (λu=>l.length - u.1) ?_ (0,o,H) ⟨by simpa using hw,Fr.refl ..,yO _,λh=>absurd h (by simp)⟩
 rintro⟨j,p,G⟩ ⟨g1,g2,g3,g4⟩ ih;simp only at g1 g2 g3 g4 ih |-;repeat(refine s_ ?_;simp)
 refine Qb rfl (λh=>?_) (λh=>?_)
 ·have z1:j<l.length:=by simpa using h
  have zb:=g2.keep hs z8 za;have hw1:=wz j (by omega);have hle:=Ed Wm l (j+1);rw[Qv Wm l j z1]at hle;repeat(refine s_ ?_;simp[zb,z1])
  refine Qd rfl rfl (Wk G q p _ e l[j] (hi _ (yB z1)) g1 (by rw[zL]at hle |-;omega)) rfl ?_;rintro _ G2 ⟨rfl,p2,k1,k2,k3⟩;simp;repeat(refine s_ ?_;simp[hw1])
  refine Qg (ih (j+1,p2,G2) ⟨?_,g2.trans k2,z1,λ_=>k3 (X0 _)⟩ (by simp only;omega)) (by simp);simp only;rw[Qv Wm l j z1,<-yL];exact k1
 have zc:j=l.length:=by simp at h;omega
 subst zc;repeat(refine s_ ?_;simp)
 rw[yV]at g1;refine⟨rfl,p,g1,g2,λhn=>g4 ?_⟩;rcases l with _|⟨a,l⟩
 ·exact absurd rfl hn
 simp
attribute [local irreducible] Ej
def Xl(v:Val)(hi:i64 v.kind/\i64 v.num)(H:List AObj)(q:Nat)(o:Option Nat)(out:List UInt8)(e:Int)(hw:WA H q out e o)(hb:out.length+(Yi v).length<=1000000000):
  FC prog 169 [.vptr q 0,encV v] H (WP H q o out e (Yi v) (Ej v)):=by
 refine fcB func169 results169 ntmps169 ?_;simp only[Qf];repeat(refine s_ ?_;simp)
 refine pcL (Pj v) ?_;simp;repeat(refine s_ ?_;simp)
 refine Qb rfl (λh=>?_) (λh=>?_)
 ·have h':Ej v≠0:=by simpa using h
  repeat(refine s_ ?_;simp)
  refine Qd rfl rfl (Ru _ q o out e (Ej v) (hw.app _)) rfl ?_;rintro _ _ ⟨rfl,rfl⟩;simp;repeat(refine s_ ?_;simp)
  refine WP.cut (G:=[.vars [.i v.kind,.i v.num,.str v.text]]) ⟨rfl,out,o,(hw.app _).err _,Fr.set ..,by omega,λh2=>?_⟩;unfold orE at h2;split at h2<;>simp_all
 have h':Ej v=0:=by simpa using h
 rw[h'];clear h;have za:H.length≠q:=by have:=hw.lt;omega
 have zb:some H.length≠o:=λh=>by have:=hw.olt h.symm;omega
 repeat(refine s_ ?_;simp)
 have hlen:(Yi v).length=(Wm v.kind).length+(if v.kind=2 then q1f v.text else Wm v.num).length:=by rw[Yi,zL]
 refine Qd rfl rfl (Wk _ q o out e v.kind hi.1 (hw.app _) (by omega)) rfl ?_;rintro _ G1 ⟨rfl,o1,w1,f1,n1⟩;have c1:=f1.keep (j:=H.length) (x:= .vars [.i v.kind,.i v.num,.str v.text]) (by simp) za zb;have z8:=f1.own (j:=H.length) (by simp) zb;simp;repeat(refine s_ ?_;simp[c1])
 refine Qb rfl (λh=>?_) (λh=>?_)
 ·have hk:v.kind≠2:=by simpa using h
  rw[if_neg hk]at hlen;repeat(refine s_ ?_;simp[c1])
  refine Qd rfl rfl (Wk _ q o1 _ e v.num hi.2 w1 (by rw[zL];omega)) rfl ?_;rintro _ G2 ⟨rfl,o2,w2,f2,n2⟩;simp;repeat(refine s_ ?_;simp)
  rw[Yi,if_neg hk];exact WP.cut (WI.wp ⟨rfl,o2,by rw[<-yL];exact w2,f1.trans f2,λ_=>n2 (X0 _)⟩)
 have hk:v.kind=2:=by simpa using h
 rw[if_pos hk,q1f,zL]at hlen;repeat(refine s_ ?_;simp[c1])
 refine Qd rfl rfl (Wk _ q o1 _ e v.text.length (by constructor<;>omega) w1 (by rw[zL];omega)) rfl ?_;rintro _ G2 ⟨rfl,o2,w2,f2,n2⟩;have c2:=f2.keep c1 za z8;simp;cases o2 with
 |none=>exact absurd rfl (n2 (X0 _))
 |some p=>
  generalize z1:out++Wm v.kind++Wm (v.text.length:Int)=out2 at *
  have zc:out2.length+v.text.length<=1000000000:=by rw[<-z1,zL,zL];omega
  have g0:=w2.1;rw[wX,R1]at g0;have g6:=w2.2.1;have b0:∀B:AObj,(G2.set p .dead++[B])[q]?=some (.vars [.sl p 1 0 out2.length,.i e]):=λB=>Qc (Qa w2.2.2 g0 _) _;have key:=c0p w2 v.text;simp[wX,R1]at key;repeat(refine s_ ?_;simp)
  refine Qw tOk mixed [7,10] (.val 0 (.val 1 (.val 2 (.val 3 (.val 4 (.val 5 (.val 6 (.one 7 (.val 8 (.val 9 (.one 10 (.done)))))))))))) rfl (by kernel_rfl) ?_;simp[g0,c2];refine Sp tOk rfl rfl T9 rfl rfl T22 rfl T5 rfl (by decide) rfl rfl rfl ?_;simp[g6,b0];refine⟨by omega,?_⟩;rw[Yi,if_pos hk,q1f];refine WP.cut (WI.wp ⟨rfl,some G2.length,?_,f1.trans (f2.trans key.2),λ_=>by simp⟩);have e2:out2++v.text=out++(Wm v.kind++(Wm v.text.length++v.text)):=by rw[<-z1];simp
  rw[<-e2];exact key.1
end
def Y1{α:Type}(bs:α->List UInt8)(l:List α):(Rh bs l).length=(Wm l.length).length+(l.flatMap bs).length:=by rw[Rh,zL]
def Y0(e:Int):orE e 5≠0:=by unfold orE;split<;>simp_all
def Xd (l:List Val) (hl:l.length<=1000000) (f:FuncId) (fs cs:List AV) (bs:Val->List UInt8) (er:Val->Int) (H:List AObj) (q:Nat) (o:Option Nat) (out:List UInt8) (e:Int) (hw:WA H q out e o) (hb:out.length+(Rh bs l).length<=1000000000)
  (z8:∀x∈l,∀(H':List AObj) (o':Option Nat) (out':List UInt8) (e':Int),WA H' q out' e' o'->Fr H H' q o o'->out'.length+(bs x).length<=1000000000->FC prog f (fs++[encV x]++cs) H' (WP H' q o' out' e' (bs x) (er x))):
  FC prog 218 [.vptr q 0,.list (l.map encV),.fn (.func f) fs cs] H (WP H q o out e (Rh bs l) (Rz er l)):=by
 refine fcB func218 results218 ntmps218 ?_;simp only[Qf];have zf:=Y1 bs l;repeat(refine s_ ?_;simp)
 by_cases hm:4096<l.length
 ·refine Qb rfl (λ_=>?_) (λh=>by simp at h;omega);repeat(refine s_ ?_;simp)
  refine Qd rfl rfl (Ru H q o out e 5 hw) rfl ?_;rintro _ _ ⟨rfl,rfl⟩;have w1:=hw.err (orE e 5);have f1:=Fr.set H q o (wX out.length (orE e 5) o);have za:=Y0 e;generalize H.set q (wX out.length (orE e 5) o)=H1 at *
  simp;repeat(refine s_ ?_;simp)
  refine Qd rfl rfl (Wk H1 q o out _ l.length (by constructor<;>omega) w1 (by omega)) rfl ?_;rintro _ H2 ⟨rfl,o2,w2,f2,_⟩;simp;repeat(refine s_ ?_;simp)
  refine Qk (Q3 ?_);have h0:0<l.length:=by omega
  repeat(refine s_ ?_;simp)
  refine Qb rfl (λ_=>?_) (λh=>by have:=of_decide_eq_false h;omega);have g2:∀A:AObj,(H2++[A])[q]?=some (.vars [Ag (out++Wm l.length).length o2,.i (orE e 5)]):=λA=>Qc w2.1 _;repeat(refine s_ ?_;simp[h0,g2])
  refine Qb rfl (λ_=>?_) (λh=>by simp[za]at h);repeat(refine s_ ?_;simp)
  refine⟨rfl,out++Wm l.length,o2,?_,?_,?_,λh=>?_⟩
  ·rw[Rz,if_pos hm];exact w2.app _
  ·exact f1.trans (f2.trans ⟨by simp,.inl rfl,λj hj _ _=>zK hj⟩)
  ·rw[zL];omega
  rw[Rz,if_pos hm]at h;exact absurd h za
 refine Qb rfl (λh=>by simp at h;omega) (λ_=>?_);rw[Rz,if_neg hm];repeat(refine s_ ?_;simp)
 refine Qd rfl rfl (Wk H q o out e l.length (by constructor<;>omega) hw (by omega)) rfl ?_;rintro _ H2 ⟨rfl,o2,w2,f2,_⟩;simp;repeat(refine s_ ?_;simp)
 refine Qk (Qg (sl':=[(0,.vptr q 0),(2,.fn (.func f) fs cs),(17,.list (l.map encV)),(18,.i l.length),(19,.i 0)]) ?_ (by simp));refine Qp (F:=λ(u:Nat×List UInt8×Int×Option Nat×List AObj)=>⟨[(0,.vptr q 0),(2,.fn (.func f) fs cs),(17,.list (l.map encV)),(18,.i l.length),(19,.i u.1)],u.2.2.2.2⟩)
  (λu=>WA u.2.2.2.2 q u.2.1 u.2.2.1 u.2.2.2.1/\Fr H u.2.2.2.2 q o u.2.2.2.1/\u.1<=l.length/\u.2.2.1=orE e (We er (l.take u.1))/\u.2.1.length<=out.length+(Wm l.length).length+((l.take u.1).flatMap bs).length/\(u.2.2.1=0->u.2.1=out++Wm l.length++(l.take u.1).flatMap bs)) (λu=>l.length - u.1) ?_
  (0,out++Wm l.length,e,o2,H2) ⟨w2,f2,yO _,by simp[We,Rc],by simp,λ_=>by simp⟩
 rintro⟨j,t,ej,p,G⟩ ⟨g1,g2,g3,g4,g5,g6⟩ ih;simp only at g1 g2 g3 g4 g5 g6 ih |-;repeat(refine s_ ?_;simp)
 refine Qb rfl (λh=>?_) (λh=>?_)
 ·have z1:j<l.length:=by simpa using h
  have hw1:=wz j (by omega);have q1:∀A:AObj,(G++[A])[q]?=some (.vars [Ag t.length p,.i ej]):=λA=>Qc g1.1 _;repeat(refine s_ ?_;simp[z1,q1])
  refine Qb rfl (λhn=>?_) (λhz=>?_)
  ·have zb:ej≠0:=by simpa using hn
   repeat(refine s_ ?_;simp)
   have zc:orE e (We er l)=ej:=by
    conv=>lhs;rw[<-yN j l]
    rw[W9,<-Wd,<-g4,U0 zb]
   refine⟨rfl,t,p,?_,?_,?_,λhz=>?_⟩
   ·rw[zc];exact g1.app _
   ·exact g2.trans ⟨by simp,.inl rfl,λj hj _ _=>zK hj⟩
   ·have:=Ed bs l j;omega
   rw[zc]at hz;exact absurd hz zb
  have zd:ej=0:=by simpa using hz
  have hle:=Ed bs l (j+1);rw[Qv bs l j z1,zL]at hle;repeat(refine s_ ?_;simp)
  refine Qd rfl rfl (z8 l[j] (yB z1) _ p t ej (g1.app _) (g2.trans ⟨by simp,.inl rfl,λj hj _ _=>zK hj⟩) (by omega)) rfl ?_;rintro _ G2 ⟨rfl,t2,p2,k1,k2,k3,k4⟩;simp;repeat(refine s_ ?_;simp[hw1])
  refine Qg (ih (j+1,t2,orE ej (er l[j]),p2,G2) ⟨k1,g2.trans k2.cut,z1,?_,?_,λh=>?_⟩ (by simp only;omega)) (by simp)
  ·simp only;rw[Ef er l j z1,<-Wd,<-g4]
  ·simp only;rw[Qv bs l j z1,zL];omega
  simp only at h |-;rw[k4 h,g6 zd,Qv bs l j z1];simp
 have ze:j=l.length:=by simp at h;omega
 subst ze;repeat(refine s_ ?_;simp)
 rw[yV]at g4 g5 g6;refine⟨rfl,t,p,?_,g2,by omega,λh=>?_⟩
 ·rw[<-g4];exact g1
 rw[g6 (by rw[g4];exact h),Rh];simp
def Gh (l:List Bnd) (hl:l.length<=1000000) (f:FuncId) (fs cs:List AV) (bs:Bnd->List UInt8) (er:Bnd->Int) (H:List AObj) (q:Nat) (o:Option Nat) (out:List UInt8) (e:Int) (hw:WA H q out e o) (hb:out.length+(Rh bs l).length<=1000000000)
  (z8:∀x∈l,∀(H':List AObj) (o':Option Nat) (out':List UInt8) (e':Int),WA H' q out' e' o'->Fr H H' q o o'->out'.length+(bs x).length<=1000000000->FC prog f (fs++[avBnd x]++cs) H' (WP H' q o' out' e' (bs x) (er x))):
  FC prog 219 [.vptr q 0,.list (l.map avBnd),.fn (.func f) fs cs] H (WP H q o out e (Rh bs l) (Rz er l)):=by
 refine fcB func219 results219 ntmps219 ?_;simp only[Qf];have zf:=Y1 bs l;repeat(refine s_ ?_;simp)
 by_cases hm:4096<l.length
 ·refine Qb rfl (λ_=>?_) (λh=>by simp at h;omega);repeat(refine s_ ?_;simp)
  refine Qd rfl rfl (Ru H q o out e 5 hw) rfl ?_;rintro _ _ ⟨rfl,rfl⟩;have w1:=hw.err (orE e 5);have f1:=Fr.set H q o (wX out.length (orE e 5) o);have za:=Y0 e;generalize H.set q (wX out.length (orE e 5) o)=H1 at *
  simp;repeat(refine s_ ?_;simp)
  refine Qd rfl rfl (Wk H1 q o out _ l.length (by constructor<;>omega) w1 (by omega)) rfl ?_;rintro _ H2 ⟨rfl,o2,w2,f2,_⟩;simp;repeat(refine s_ ?_;simp)
  refine Qk (Q3 ?_);have h0:0<l.length:=by omega
  repeat(refine s_ ?_;simp)
  refine Qb rfl (λ_=>?_) (λh=>by have:=of_decide_eq_false h;omega);have g2:∀A:AObj,(H2++[A])[q]?=some (.vars [Ag (out++Wm l.length).length o2,.i (orE e 5)]):=λA=>Qc w2.1 _;repeat(refine s_ ?_;simp[h0,g2])
  refine Qb rfl (λ_=>?_) (λh=>by simp[za]at h);repeat(refine s_ ?_;simp)
  refine⟨rfl,out++Wm l.length,o2,?_,?_,?_,λh=>?_⟩
  ·rw[Rz,if_pos hm];exact w2.app _
  ·exact f1.trans (f2.trans ⟨by simp,.inl rfl,λj hj _ _=>zK hj⟩)
  ·rw[zL];omega
  rw[Rz,if_pos hm]at h;exact absurd h za
 refine Qb rfl (λh=>by simp at h;omega) (λ_=>?_);rw[Rz,if_neg hm];repeat(refine s_ ?_;simp)
 refine Qd rfl rfl (Wk H q o out e l.length (by constructor<;>omega) hw (by omega)) rfl ?_;rintro _ H2 ⟨rfl,o2,w2,f2,_⟩;simp;repeat(refine s_ ?_;simp)
 refine Qk (Qg (sl':=[(0,.vptr q 0),(2,.fn (.func f) fs cs),(17,.list (l.map avBnd)),(18,.i l.length),(19,.i 0)]) ?_ (by simp));refine Qp (F:=λ(u:Nat×List UInt8×Int×Option Nat×List AObj)=>⟨[(0,.vptr q 0),(2,.fn (.func f) fs cs),(17,.list (l.map avBnd)),(18,.i l.length),(19,.i u.1)],u.2.2.2.2⟩)
  (λu=>WA u.2.2.2.2 q u.2.1 u.2.2.1 u.2.2.2.1/\Fr H u.2.2.2.2 q o u.2.2.2.1/\u.1<=l.length/\u.2.2.1=orE e (We er (l.take u.1))/\u.2.1.length<=out.length+(Wm l.length).length+((l.take u.1).flatMap bs).length/\(u.2.2.1=0->u.2.1=out++Wm l.length++(l.take u.1).flatMap bs)) (λu=>l.length - u.1) ?_
  (0,out++Wm l.length,e,o2,H2) ⟨w2,f2,yO _,by simp[We,Rc],by simp,λ_=>by simp⟩
 rintro⟨j,t,ej,p,G⟩ ⟨g1,g2,g3,g4,g5,g6⟩ ih;simp only at g1 g2 g3 g4 g5 g6 ih |-;repeat(refine s_ ?_;simp)
 refine Qb rfl (λh=>?_) (λh=>?_)
 ·have z1:j<l.length:=by simpa using h
  have hw1:=wz j (by omega);have q1:∀A:AObj,(G++[A])[q]?=some (.vars [Ag t.length p,.i ej]):=λA=>Qc g1.1 _;repeat(refine s_ ?_;simp[z1,q1])
  refine Qb rfl (λhn=>?_) (λhz=>?_)
  ·have zb:ej≠0:=by simpa using hn
   repeat(refine s_ ?_;simp)
   have zc:orE e (We er l)=ej:=by
    conv=>lhs;rw[<-yN j l]
    rw[W9,<-Wd,<-g4,U0 zb]
   refine⟨rfl,t,p,?_,?_,?_,λhz=>?_⟩
   ·rw[zc];exact g1.app _
   ·exact g2.trans ⟨by simp,.inl rfl,λj hj _ _=>zK hj⟩
   ·have:=Ed bs l j;omega
   rw[zc]at hz;exact absurd hz zb
  have zd:ej=0:=by simpa using hz
  have hle:=Ed bs l (j+1);rw[Qv bs l j z1,zL]at hle;repeat(refine s_ ?_;simp)
  refine Qd rfl rfl (z8 l[j] (yB z1) _ p t ej (g1.app _) (g2.trans ⟨by simp,.inl rfl,λj hj _ _=>zK hj⟩) (by omega)) rfl ?_;rintro _ G2 ⟨rfl,t2,p2,k1,k2,k3,k4⟩;simp;repeat(refine s_ ?_;simp[hw1])
  refine Qg (ih (j+1,t2,orE ej (er l[j]),p2,G2) ⟨k1,g2.trans k2.cut,z1,?_,?_,λh=>?_⟩ (by simp only;omega)) (by simp)
  ·simp only;rw[Ef er l j z1,<-Wd,<-g4]
  ·simp only;rw[Qv bs l j z1,zL];omega
  simp only at h |-;rw[k4 h,g6 zd,Qv bs l j z1];simp
 have ze:j=l.length:=by simp at h;omega
 subst ze;repeat(refine s_ ?_;simp)
 rw[yV]at g4 g5 g6;refine⟨rfl,t,p,?_,g2,by omega,λh=>?_⟩
 ·rw[<-g4];exact g1
 rw[g6 (by rw[g4];exact h),Rh];simp
def Lb (l:List Stt) (hl:l.length<=1000000) (f:FuncId) (fs cs:List AV) (bs:Stt->List UInt8) (er:Stt->Int) (H:List AObj) (q:Nat) (o:Option Nat) (out:List UInt8) (e:Int) (hw:WA H q out e o) (hb:out.length+(Rh bs l).length<=1000000000)
  (z8:∀x∈l,∀(H':List AObj) (o':Option Nat) (out':List UInt8) (e':Int),WA H' q out' e' o'->Fr H H' q o o'->out'.length+(bs x).length<=1000000000->FC prog f (fs++[avStt x]++cs) H' (WP H' q o' out' e' (bs x) (er x))):
  FC prog 221 [.vptr q 0,.list (l.map avStt),.fn (.func f) fs cs] H (WP H q o out e (Rh bs l) (Rz er l)):=by
 refine fcB func221 results221 ntmps221 ?_;simp only[Qf];have zf:=Y1 bs l;repeat(refine s_ ?_;simp)
 by_cases hm:4096<l.length
 ·refine Qb rfl (λ_=>?_) (λh=>by simp at h;omega);repeat(refine s_ ?_;simp)
  refine Qd rfl rfl (Ru H q o out e 5 hw) rfl ?_;rintro _ _ ⟨rfl,rfl⟩;have w1:=hw.err (orE e 5);have f1:=Fr.set H q o (wX out.length (orE e 5) o);have za:=Y0 e;generalize H.set q (wX out.length (orE e 5) o)=H1 at *
  simp;repeat(refine s_ ?_;simp)
  refine Qd rfl rfl (Wk H1 q o out _ l.length (by constructor<;>omega) w1 (by omega)) rfl ?_;rintro _ H2 ⟨rfl,o2,w2,f2,_⟩;simp;repeat(refine s_ ?_;simp)
  refine Qk (Q3 ?_);have h0:0<l.length:=by omega
  repeat(refine s_ ?_;simp)
  refine Qb rfl (λ_=>?_) (λh=>by have:=of_decide_eq_false h;omega);have g2:∀A:AObj,(H2++[A])[q]?=some (.vars [Ag (out++Wm l.length).length o2,.i (orE e 5)]):=λA=>Qc w2.1 _;repeat(refine s_ ?_;simp[h0,g2])
  refine Qb rfl (λ_=>?_) (λh=>by simp[za]at h);repeat(refine s_ ?_;simp)
  refine⟨rfl,out++Wm l.length,o2,?_,?_,?_,λh=>?_⟩
  ·rw[Rz,if_pos hm];exact w2.app _
  ·exact f1.trans (f2.trans ⟨by simp,.inl rfl,λj hj _ _=>zK hj⟩)
  ·rw[zL];omega
  rw[Rz,if_pos hm]at h;exact absurd h za
 refine Qb rfl (λh=>by simp at h;omega) (λ_=>?_);rw[Rz,if_neg hm];repeat(refine s_ ?_;simp)
 refine Qd rfl rfl (Wk H q o out e l.length (by constructor<;>omega) hw (by omega)) rfl ?_;rintro _ H2 ⟨rfl,o2,w2,f2,_⟩;simp;repeat(refine s_ ?_;simp)
 refine Qk (Qg (sl':=[(0,.vptr q 0),(2,.fn (.func f) fs cs),(17,.list (l.map avStt)),(18,.i l.length),(19,.i 0)]) ?_ (by simp));refine Qp (F:=λ(u:Nat×List UInt8×Int×Option Nat×List AObj)=>⟨[(0,.vptr q 0),(2,.fn (.func f) fs cs),(17,.list (l.map avStt)),(18,.i l.length),(19,.i u.1)],u.2.2.2.2⟩)
  (λu=>WA u.2.2.2.2 q u.2.1 u.2.2.1 u.2.2.2.1/\Fr H u.2.2.2.2 q o u.2.2.2.1/\u.1<=l.length/\u.2.2.1=orE e (We er (l.take u.1))/\u.2.1.length<=out.length+(Wm l.length).length+((l.take u.1).flatMap bs).length/\(u.2.2.1=0->u.2.1=out++Wm l.length++(l.take u.1).flatMap bs)) (λu=>l.length - u.1) ?_
  (0,out++Wm l.length,e,o2,H2) ⟨w2,f2,yO _,by simp[We,Rc],by simp,λ_=>by simp⟩
 rintro⟨j,t,ej,p,G⟩ ⟨g1,g2,g3,g4,g5,g6⟩ ih;simp only at g1 g2 g3 g4 g5 g6 ih |-;repeat(refine s_ ?_;simp)
 refine Qb rfl (λh=>?_) (λh=>?_)
 ·have z1:j<l.length:=by simpa using h
  have hw1:=wz j (by omega);have q1:∀A:AObj,(G++[A])[q]?=some (.vars [Ag t.length p,.i ej]):=λA=>Qc g1.1 _;repeat(refine s_ ?_;simp[z1,q1])
  refine Qb rfl (λhn=>?_) (λhz=>?_)
  ·have zb:ej≠0:=by simpa using hn
   repeat(refine s_ ?_;simp)
   have zc:orE e (We er l)=ej:=by
    conv=>lhs;rw[<-yN j l]
    rw[W9,<-Wd,<-g4,U0 zb]
   refine⟨rfl,t,p,?_,?_,?_,λhz=>?_⟩
   ·rw[zc];exact g1.app _
   ·exact g2.trans ⟨by simp,.inl rfl,λj hj _ _=>zK hj⟩
   ·have:=Ed bs l j;omega
   rw[zc]at hz;exact absurd hz zb
  have zd:ej=0:=by simpa using hz
  have hle:=Ed bs l (j+1);rw[Qv bs l j z1,zL]at hle;repeat(refine s_ ?_;simp)
  refine Qd rfl rfl (z8 l[j] (yB z1) _ p t ej (g1.app _) (g2.trans ⟨by simp,.inl rfl,λj hj _ _=>zK hj⟩) (by omega)) rfl ?_;rintro _ G2 ⟨rfl,t2,p2,k1,k2,k3,k4⟩;simp;repeat(refine s_ ?_;simp[hw1])
  refine Qg (ih (j+1,t2,orE ej (er l[j]),p2,G2) ⟨k1,g2.trans k2.cut,z1,?_,?_,λh=>?_⟩ (by simp only;omega)) (by simp)
  ·simp only;rw[Ef er l j z1,<-Wd,<-g4]
  ·simp only;rw[Qv bs l j z1,zL];omega
  simp only at h |-;rw[k4 h,g6 zd,Qv bs l j z1];simp
 have ze:j=l.length:=by simp at h;omega
 subst ze;repeat(refine s_ ?_;simp)
 rw[yV]at g4 g5 g6;refine⟨rfl,t,p,?_,g2,by omega,λh=>?_⟩
 ·rw[<-g4];exact g1
 rw[g6 (by rw[g4];exact h),Rh];simp
def A9 (l:List Ev) (hl:l.length<=1000000) (f:FuncId) (fs cs:List AV) (bs:Ev->List UInt8) (er:Ev->Int) (H:List AObj) (q:Nat) (o:Option Nat) (out:List UInt8) (e:Int) (hw:WA H q out e o) (hb:out.length+(Rh bs l).length<=1000000000)
  (z8:∀x∈l,∀(H':List AObj) (o':Option Nat) (out':List UInt8) (e':Int),WA H' q out' e' o'->Fr H H' q o o'->out'.length+(bs x).length<=1000000000->FC prog f (fs++[encE x]++cs) H' (WP H' q o' out' e' (bs x) (er x))):
  FC prog 196 [.vptr q 0,.list (l.map encE),.fn (.func f) fs cs] H (WP H q o out e (Rh bs l) (Rz er l)):=by
 refine fcB func196 results196 ntmps196 ?_;simp only[Qf];have zf:=Y1 bs l;repeat(refine s_ ?_;simp)
 by_cases hm:4096<l.length
 ·refine Qb rfl (λ_=>?_) (λh=>by simp at h;omega);repeat(refine s_ ?_;simp)
  refine Qd rfl rfl (Ru H q o out e 5 hw) rfl ?_;rintro _ _ ⟨rfl,rfl⟩;have w1:=hw.err (orE e 5);have f1:=Fr.set H q o (wX out.length (orE e 5) o);have za:=Y0 e;generalize H.set q (wX out.length (orE e 5) o)=H1 at *
  simp;repeat(refine s_ ?_;simp)
  refine Qd rfl rfl (Wk H1 q o out _ l.length (by constructor<;>omega) w1 (by omega)) rfl ?_;rintro _ H2 ⟨rfl,o2,w2,f2,_⟩;simp;repeat(refine s_ ?_;simp)
  refine Qk (Q3 ?_);have h0:0<l.length:=by omega
  repeat(refine s_ ?_;simp)
  refine Qb rfl (λ_=>?_) (λh=>by have:=of_decide_eq_false h;omega);have g2:∀A:AObj,(H2++[A])[q]?=some (.vars [Ag (out++Wm l.length).length o2,.i (orE e 5)]):=λA=>Qc w2.1 _;repeat(refine s_ ?_;simp[h0,g2])
  refine Qb rfl (λ_=>?_) (λh=>by simp[za]at h);repeat(refine s_ ?_;simp)
  refine⟨rfl,out++Wm l.length,o2,?_,?_,?_,λh=>?_⟩
  ·rw[Rz,if_pos hm];exact w2.app _
  ·exact f1.trans (f2.trans ⟨by simp,.inl rfl,λj hj _ _=>zK hj⟩)
  ·rw[zL];omega
  rw[Rz,if_pos hm]at h;exact absurd h za
 refine Qb rfl (λh=>by simp at h;omega) (λ_=>?_);rw[Rz,if_neg hm];repeat(refine s_ ?_;simp)
 refine Qd rfl rfl (Wk H q o out e l.length (by constructor<;>omega) hw (by omega)) rfl ?_;rintro _ H2 ⟨rfl,o2,w2,f2,_⟩;simp;repeat(refine s_ ?_;simp)
 refine Qk (Qg (sl':=[(0,.vptr q 0),(2,.fn (.func f) fs cs),(17,.list (l.map encE)),(18,.i l.length),(19,.i 0)]) ?_ (by simp));refine Qp (F:=λ(u:Nat×List UInt8×Int×Option Nat×List AObj)=>⟨[(0,.vptr q 0),(2,.fn (.func f) fs cs),(17,.list (l.map encE)),(18,.i l.length),(19,.i u.1)],u.2.2.2.2⟩)
  (λu=>WA u.2.2.2.2 q u.2.1 u.2.2.1 u.2.2.2.1/\Fr H u.2.2.2.2 q o u.2.2.2.1/\u.1<=l.length/\u.2.2.1=orE e (We er (l.take u.1))/\u.2.1.length<=out.length+(Wm l.length).length+((l.take u.1).flatMap bs).length/\(u.2.2.1=0->u.2.1=out++Wm l.length++(l.take u.1).flatMap bs)) (λu=>l.length - u.1) ?_
  (0,out++Wm l.length,e,o2,H2) ⟨w2,f2,yO _,by simp[We,Rc],by simp,λ_=>by simp⟩
 rintro⟨j,t,ej,p,G⟩ ⟨g1,g2,g3,g4,g5,g6⟩ ih;simp only at g1 g2 g3 g4 g5 g6 ih |-;repeat(refine s_ ?_;simp)
 refine Qb rfl (λh=>?_) (λh=>?_)
 ·have z1:j<l.length:=by simpa using h
  have hw1:=wz j (by omega);have q1:∀A:AObj,(G++[A])[q]?=some (.vars [Ag t.length p,.i ej]):=λA=>Qc g1.1 _;repeat(refine s_ ?_;simp[z1,q1])
  refine Qb rfl (λhn=>?_) (λhz=>?_)
  ·have zb:ej≠0:=by simpa using hn
   repeat(refine s_ ?_;simp)
   have zc:orE e (We er l)=ej:=by
    conv=>lhs;rw[<-yN j l]
    rw[W9,<-Wd,<-g4,U0 zb]
   refine⟨rfl,t,p,?_,?_,?_,λhz=>?_⟩
   ·rw[zc];exact g1.app _
   ·exact g2.trans ⟨by simp,.inl rfl,λj hj _ _=>zK hj⟩
   ·have:=Ed bs l j;omega
   rw[zc]at hz;exact absurd hz zb
  have zd:ej=0:=by simpa using hz
  have hle:=Ed bs l (j+1);rw[Qv bs l j z1,zL]at hle;repeat(refine s_ ?_;simp)
  refine Qd rfl rfl (z8 l[j] (yB z1) _ p t ej (g1.app _) (g2.trans ⟨by simp,.inl rfl,λj hj _ _=>zK hj⟩) (by omega)) rfl ?_;rintro _ G2 ⟨rfl,t2,p2,k1,k2,k3,k4⟩;simp;repeat(refine s_ ?_;simp[hw1])
  refine Qg (ih (j+1,t2,orE ej (er l[j]),p2,G2) ⟨k1,g2.trans k2.cut,z1,?_,?_,λh=>?_⟩ (by simp only;omega)) (by simp)
  ·simp only;rw[Ef er l j z1,<-Wd,<-g4]
  ·simp only;rw[Qv bs l j z1,zL];omega
  simp only at h |-;rw[k4 h,g6 zd,Qv bs l j z1];simp
 have ze:j=l.length:=by simp at h;omega
 subst ze;repeat(refine s_ ?_;simp)
 rw[yV]at g4 g5 g6;refine⟨rfl,t,p,?_,g2,by omega,λh=>?_⟩
 ·rw[<-g4];exact g1
 rw[g6 (by rw[g4];exact h),Rh];simp
def Jw (l:List Cfg) (hl:l.length<=1000000) (f:FuncId) (fs cs:List AV) (bs:Cfg->List UInt8) (er:Cfg->Int) (H:List AObj) (q:Nat) (o:Option Nat) (out:List UInt8) (e:Int) (hw:WA H q out e o) (hb:out.length+(Rh bs l).length<=1000000000)
  (z8:∀x∈l,∀(H':List AObj) (o':Option Nat) (out':List UInt8) (e':Int),WA H' q out' e' o'->Fr H H' q o o'->out'.length+(bs x).length<=1000000000->FC prog f (fs++[avCfg x]++cs) H' (WP H' q o' out' e' (bs x) (er x))):
  FC prog 198 [.vptr q 0,.list (l.map avCfg),.fn (.func f) fs cs] H (WP H q o out e (Rh bs l) (Rz er l)):=by
 refine fcB func198 results198 ntmps198 ?_;simp only[Qf];have zf:=Y1 bs l;repeat(refine s_ ?_;simp)
 by_cases hm:4096<l.length
 ·refine Qb rfl (λ_=>?_) (λh=>by simp at h;omega);repeat(refine s_ ?_;simp)
  refine Qd rfl rfl (Ru H q o out e 5 hw) rfl ?_;rintro _ _ ⟨rfl,rfl⟩;have w1:=hw.err (orE e 5);have f1:=Fr.set H q o (wX out.length (orE e 5) o);have za:=Y0 e;generalize H.set q (wX out.length (orE e 5) o)=H1 at *
  simp;repeat(refine s_ ?_;simp)
  refine Qd rfl rfl (Wk H1 q o out _ l.length (by constructor<;>omega) w1 (by omega)) rfl ?_;rintro _ H2 ⟨rfl,o2,w2,f2,_⟩;simp;repeat(refine s_ ?_;simp)
  refine Qk (Q3 ?_);have h0:0<l.length:=by omega
  repeat(refine s_ ?_;simp)
  refine Qb rfl (λ_=>?_) (λh=>by have:=of_decide_eq_false h;omega);have g2:∀A:AObj,(H2++[A])[q]?=some (.vars [Ag (out++Wm l.length).length o2,.i (orE e 5)]):=λA=>Qc w2.1 _;repeat(refine s_ ?_;simp[h0,g2])
  refine Qb rfl (λ_=>?_) (λh=>by simp[za]at h);repeat(refine s_ ?_;simp)
  refine⟨rfl,out++Wm l.length,o2,?_,?_,?_,λh=>?_⟩
  ·rw[Rz,if_pos hm];exact w2.app _
  ·exact f1.trans (f2.trans ⟨by simp,.inl rfl,λj hj _ _=>zK hj⟩)
  ·rw[zL];omega
  rw[Rz,if_pos hm]at h;exact absurd h za
 refine Qb rfl (λh=>by simp at h;omega) (λ_=>?_);rw[Rz,if_neg hm];repeat(refine s_ ?_;simp)
 refine Qd rfl rfl (Wk H q o out e l.length (by constructor<;>omega) hw (by omega)) rfl ?_;rintro _ H2 ⟨rfl,o2,w2,f2,_⟩;simp;repeat(refine s_ ?_;simp)
 refine Qk (Qg (sl':=[(0,.vptr q 0),(2,.fn (.func f) fs cs),(17,.list (l.map avCfg)),(18,.i l.length),(19,.i 0)]) ?_ (by simp));refine Qp (F:=λ(u:Nat×List UInt8×Int×Option Nat×List AObj)=>⟨[(0,.vptr q 0),(2,.fn (.func f) fs cs),(17,.list (l.map avCfg)),(18,.i l.length),(19,.i u.1)],u.2.2.2.2⟩)
  (λu=>WA u.2.2.2.2 q u.2.1 u.2.2.1 u.2.2.2.1/\Fr H u.2.2.2.2 q o u.2.2.2.1/\u.1<=l.length/\u.2.2.1=orE e (We er (l.take u.1))/\u.2.1.length<=out.length+(Wm l.length).length+((l.take u.1).flatMap bs).length/\(u.2.2.1=0->u.2.1=out++Wm l.length++(l.take u.1).flatMap bs)) (λu=>l.length - u.1) ?_
  (0,out++Wm l.length,e,o2,H2) ⟨w2,f2,yO _,by simp[We,Rc],by simp,λ_=>by simp⟩
 rintro⟨j,t,ej,p,G⟩ ⟨g1,g2,g3,g4,g5,g6⟩ ih;simp only at g1 g2 g3 g4 g5 g6 ih |-;repeat(refine s_ ?_;simp)
 refine Qb rfl (λh=>?_) (λh=>?_)
 ·have z1:j<l.length:=by simpa using h
  have hw1:=wz j (by omega);have q1:∀A:AObj,(G++[A])[q]?=some (.vars [Ag t.length p,.i ej]):=λA=>Qc g1.1 _;repeat(refine s_ ?_;simp[z1,q1])
  refine Qb rfl (λhn=>?_) (λhz=>?_)
  ·have zb:ej≠0:=by simpa using hn
   repeat(refine s_ ?_;simp)
   have zc:orE e (We er l)=ej:=by
    conv=>lhs;rw[<-yN j l]
    rw[W9,<-Wd,<-g4,U0 zb]
   refine⟨rfl,t,p,?_,?_,?_,λhz=>?_⟩
   ·rw[zc];exact g1.app _
   ·exact g2.trans ⟨by simp,.inl rfl,λj hj _ _=>zK hj⟩
   ·have:=Ed bs l j;omega
   rw[zc]at hz;exact absurd hz zb
  have zd:ej=0:=by simpa using hz
  have hle:=Ed bs l (j+1);rw[Qv bs l j z1,zL]at hle;repeat(refine s_ ?_;simp)
  refine Qd rfl rfl (z8 l[j] (yB z1) _ p t ej (g1.app _) (g2.trans ⟨by simp,.inl rfl,λj hj _ _=>zK hj⟩) (by omega)) rfl ?_;rintro _ G2 ⟨rfl,t2,p2,k1,k2,k3,k4⟩;simp;repeat(refine s_ ?_;simp[hw1])
  refine Qg (ih (j+1,t2,orE ej (er l[j]),p2,G2) ⟨k1,g2.trans k2.cut,z1,?_,?_,λh=>?_⟩ (by simp only;omega)) (by simp)
  ·simp only;rw[Ef er l j z1,<-Wd,<-g4]
  ·simp only;rw[Qv bs l j z1,zL];omega
  simp only at h |-;rw[k4 h,g6 zd,Qv bs l j z1];simp
 have ze:j=l.length:=by simp at h;omega
 subst ze;repeat(refine s_ ?_;simp)
 rw[yV]at g4 g5 g6;refine⟨rfl,t,p,?_,g2,by omega,λh=>?_⟩
 ·rw[<-g4];exact g1
 rw[g6 (by rw[g4];exact h),Rh];simp
def He (l:List Int) (hl:l.length<=1000000) (f:FuncId) (fs cs:List AV) (bs:Int->List UInt8) (er:Int->Int) (H:List AObj) (q:Nat) (o:Option Nat) (out:List UInt8) (e:Int) (hw:WA H q out e o) (hb:out.length+(Rh bs l).length<=1000000000)
  (z8:∀x∈l,∀(H':List AObj) (o':Option Nat) (out':List UInt8) (e':Int),WA H' q out' e' o'->Fr H H' q o o'->out'.length+(bs x).length<=1000000000->FC prog f (fs++[encI x]++cs) H' (WP H' q o' out' e' (bs x) (er x))):
  FC prog 164 [.vptr q 0,.list (l.map encI),.fn (.func f) fs cs] H (WP H q o out e (Rh bs l) (Rz er l)):=by
 refine fcB func164 results164 ntmps164 ?_;simp only[Qf];have zf:=Y1 bs l;repeat(refine s_ ?_;simp)
 by_cases hm:4096<l.length
 ·refine Qb rfl (λ_=>?_) (λh=>by simp at h;omega);repeat(refine s_ ?_;simp)
  refine Qd rfl rfl (Ru H q o out e 5 hw) rfl ?_;rintro _ _ ⟨rfl,rfl⟩;have w1:=hw.err (orE e 5);have f1:=Fr.set H q o (wX out.length (orE e 5) o);have za:=Y0 e;generalize H.set q (wX out.length (orE e 5) o)=H1 at *
  simp;repeat(refine s_ ?_;simp)
  refine Qd rfl rfl (Wk H1 q o out _ l.length (by constructor<;>omega) w1 (by omega)) rfl ?_;rintro _ H2 ⟨rfl,o2,w2,f2,_⟩;simp;repeat(refine s_ ?_;simp)
  refine Qk (Q3 ?_);have h0:0<l.length:=by omega
  repeat(refine s_ ?_;simp)
  refine Qb rfl (λ_=>?_) (λh=>by have:=of_decide_eq_false h;omega);have g2:H2[q]?=some (.vars [Ag (out++Wm l.length).length o2,.i (orE e 5)]):=w2.1;repeat(refine s_ ?_;simp[h0,g2])
  refine Qb rfl (λ_=>?_) (λh=>by simp[za]at h);repeat(refine s_ ?_;simp)
  refine⟨rfl,out++Wm l.length,o2,?_,?_,?_,λh=>?_⟩
  ·rw[Rz,if_pos hm];exact w2
  ·exact f1.trans (f2)
  ·rw[zL];omega
  rw[Rz,if_pos hm]at h;exact absurd h za
 refine Qb rfl (λh=>by simp at h;omega) (λ_=>?_);rw[Rz,if_neg hm];repeat(refine s_ ?_;simp)
 refine Qd rfl rfl (Wk H q o out e l.length (by constructor<;>omega) hw (by omega)) rfl ?_;rintro _ H2 ⟨rfl,o2,w2,f2,_⟩;simp;repeat(refine s_ ?_;simp)
 refine Qk (Qg (sl':=[(0,.vptr q 0),(2,.fn (.func f) fs cs),(17,.list (l.map encI)),(18,.i l.length),(19,.i 0)]) ?_ (by simp));refine Qp (F:=λ(u:Nat×List UInt8×Int×Option Nat×List AObj)=>⟨[(0,.vptr q 0),(2,.fn (.func f) fs cs),(17,.list (l.map encI)),(18,.i l.length),(19,.i u.1)],u.2.2.2.2⟩)
  (λu=>WA u.2.2.2.2 q u.2.1 u.2.2.1 u.2.2.2.1/\Fr H u.2.2.2.2 q o u.2.2.2.1/\u.1<=l.length/\u.2.2.1=orE e (We er (l.take u.1))/\u.2.1.length<=out.length+(Wm l.length).length+((l.take u.1).flatMap bs).length/\(u.2.2.1=0->u.2.1=out++Wm l.length++(l.take u.1).flatMap bs)) (λu=>l.length - u.1) ?_
  (0,out++Wm l.length,e,o2,H2) ⟨w2,f2,yO _,by simp[We,Rc],by simp,λ_=>by simp⟩
 rintro⟨j,t,ej,p,G⟩ ⟨g1,g2,g3,g4,g5,g6⟩ ih;simp only at g1 g2 g3 g4 g5 g6 ih |-;repeat(refine s_ ?_;simp)
 refine Qb rfl (λh=>?_) (λh=>?_)
 ·have z1:j<l.length:=by simpa using h
  have hw1:=wz j (by omega);have q1:G[q]?=some (.vars [Ag t.length p,.i ej]):=g1.1;repeat(refine s_ ?_;simp[z1,q1])
  refine Qb rfl (λhn=>?_) (λhz=>?_)
  ·have zb:ej≠0:=by simpa using hn
   repeat(refine s_ ?_;simp)
   have zc:orE e (We er l)=ej:=by
    conv=>lhs;rw[<-yN j l]
    rw[W9,<-Wd,<-g4,U0 zb]
   refine⟨rfl,t,p,?_,?_,?_,λhz=>?_⟩
   ·rw[zc];exact g1
   ·exact g2
   ·have:=Ed bs l j;omega
   rw[zc]at hz;exact absurd hz zb
  have zd:ej=0:=by simpa using hz
  have hle:=Ed bs l (j+1);rw[Qv bs l j z1,zL]at hle;repeat(refine s_ ?_;simp)
  refine Qd rfl rfl (z8 l[j] (yB z1) _ p t ej g1 (g2) (by omega)) rfl ?_;rintro _ G2 ⟨rfl,t2,p2,k1,k2,k3,k4⟩;simp;repeat(refine s_ ?_;simp[hw1])
  refine Qg (ih (j+1,t2,orE ej (er l[j]),p2,G2) ⟨k1,g2.trans k2,z1,?_,?_,λh=>?_⟩ (by simp only;omega)) (by simp)
  ·simp only;rw[Ef er l j z1,<-Wd,<-g4]
  ·simp only;rw[Qv bs l j z1,zL];omega
  simp only at h |-;rw[k4 h,g6 zd,Qv bs l j z1];simp
 have ze:j=l.length:=by simp at h;omega
 subst ze;repeat(refine s_ ?_;simp)
 rw[yV]at g4 g5 g6;refine⟨rfl,t,p,?_,g2,by omega,λh=>?_⟩
 ·rw[<-g4];exact g1
 rw[g6 (by rw[g4];exact h),Rh];simp
def Kw (l:List Pnt) (hl:l.length<=1000000) (f:FuncId) (fs cs:List AV) (bs:Pnt->List UInt8) (er:Pnt->Int) (H:List AObj) (q:Nat) (o:Option Nat) (out:List UInt8) (e:Int) (hw:WA H q out e o) (hb:out.length+(Rh bs l).length<=1000000000)
  (z8:∀x∈l,∀(H':List AObj) (o':Option Nat) (out':List UInt8) (e':Int),WA H' q out' e' o'->Fr H H' q o o'->out'.length+(bs x).length<=1000000000->FC prog f (fs++[avPnt x]++cs) H' (WP H' q o' out' e' (bs x) (er x))):
  FC prog 165 [.vptr q 0,.list (l.map avPnt),.fn (.func f) fs cs] H (WP H q o out e (Rh bs l) (Rz er l)):=by
 refine fcB func165 results165 ntmps165 ?_;simp only[Qf];have zf:=Y1 bs l;repeat(refine s_ ?_;simp)
 by_cases hm:4096<l.length
 ·refine Qb rfl (λ_=>?_) (λh=>by simp at h;omega);repeat(refine s_ ?_;simp)
  refine Qd rfl rfl (Ru H q o out e 5 hw) rfl ?_;rintro _ _ ⟨rfl,rfl⟩;have w1:=hw.err (orE e 5);have f1:=Fr.set H q o (wX out.length (orE e 5) o);have za:=Y0 e;generalize H.set q (wX out.length (orE e 5) o)=H1 at *
  simp;repeat(refine s_ ?_;simp)
  refine Qd rfl rfl (Wk H1 q o out _ l.length (by constructor<;>omega) w1 (by omega)) rfl ?_;rintro _ H2 ⟨rfl,o2,w2,f2,_⟩;simp;repeat(refine s_ ?_;simp)
  refine Qk (Q3 ?_);have h0:0<l.length:=by omega
  repeat(refine s_ ?_;simp)
  refine Qb rfl (λ_=>?_) (λh=>by have:=of_decide_eq_false h;omega);have g2:∀A:AObj,(H2++[A])[q]?=some (.vars [Ag (out++Wm l.length).length o2,.i (orE e 5)]):=λA=>Qc w2.1 _;repeat(refine s_ ?_;simp[h0,g2])
  refine Qb rfl (λ_=>?_) (λh=>by simp[za]at h);repeat(refine s_ ?_;simp)
  refine⟨rfl,out++Wm l.length,o2,?_,?_,?_,λh=>?_⟩
  ·rw[Rz,if_pos hm];exact w2.app _
  ·exact f1.trans (f2.trans ⟨by simp,.inl rfl,λj hj _ _=>zK hj⟩)
  ·rw[zL];omega
  rw[Rz,if_pos hm]at h;exact absurd h za
 refine Qb rfl (λh=>by simp at h;omega) (λ_=>?_);rw[Rz,if_neg hm];repeat(refine s_ ?_;simp)
 refine Qd rfl rfl (Wk H q o out e l.length (by constructor<;>omega) hw (by omega)) rfl ?_;rintro _ H2 ⟨rfl,o2,w2,f2,_⟩;simp;repeat(refine s_ ?_;simp)
 refine Qk (Qg (sl':=[(0,.vptr q 0),(2,.fn (.func f) fs cs),(17,.list (l.map avPnt)),(18,.i l.length),(19,.i 0)]) ?_ (by simp));refine Qp (F:=λ(u:Nat×List UInt8×Int×Option Nat×List AObj)=>⟨[(0,.vptr q 0),(2,.fn (.func f) fs cs),(17,.list (l.map avPnt)),(18,.i l.length),(19,.i u.1)],u.2.2.2.2⟩)
  (λu=>WA u.2.2.2.2 q u.2.1 u.2.2.1 u.2.2.2.1/\Fr H u.2.2.2.2 q o u.2.2.2.1/\u.1<=l.length/\u.2.2.1=orE e (We er (l.take u.1))/\u.2.1.length<=out.length+(Wm l.length).length+((l.take u.1).flatMap bs).length/\(u.2.2.1=0->u.2.1=out++Wm l.length++(l.take u.1).flatMap bs)) (λu=>l.length - u.1) ?_
  (0,out++Wm l.length,e,o2,H2) ⟨w2,f2,yO _,by simp[We,Rc],by simp,λ_=>by simp⟩
 rintro⟨j,t,ej,p,G⟩ ⟨g1,g2,g3,g4,g5,g6⟩ ih;simp only at g1 g2 g3 g4 g5 g6 ih |-;repeat(refine s_ ?_;simp)
 refine Qb rfl (λh=>?_) (λh=>?_)
 ·have z1:j<l.length:=by simpa using h
  have hw1:=wz j (by omega);have q1:∀A:AObj,(G++[A])[q]?=some (.vars [Ag t.length p,.i ej]):=λA=>Qc g1.1 _;repeat(refine s_ ?_;simp[z1,q1])
  refine Qb rfl (λhn=>?_) (λhz=>?_)
  ·have zb:ej≠0:=by simpa using hn
   repeat(refine s_ ?_;simp)
   have zc:orE e (We er l)=ej:=by
    conv=>lhs;rw[<-yN j l]
    rw[W9,<-Wd,<-g4,U0 zb]
   refine⟨rfl,t,p,?_,?_,?_,λhz=>?_⟩
   ·rw[zc];exact g1.app _
   ·exact g2.trans ⟨by simp,.inl rfl,λj hj _ _=>zK hj⟩
   ·have:=Ed bs l j;omega
   rw[zc]at hz;exact absurd hz zb
  have zd:ej=0:=by simpa using hz
  have hle:=Ed bs l (j+1);rw[Qv bs l j z1,zL]at hle;repeat(refine s_ ?_;simp)
  refine Qd rfl rfl (z8 l[j] (yB z1) _ p t ej (g1.app _) (g2.trans ⟨by simp,.inl rfl,λj hj _ _=>zK hj⟩) (by omega)) rfl ?_;rintro _ G2 ⟨rfl,t2,p2,k1,k2,k3,k4⟩;simp;repeat(refine s_ ?_;simp[hw1])
  refine Qg (ih (j+1,t2,orE ej (er l[j]),p2,G2) ⟨k1,g2.trans k2.cut,z1,?_,?_,λh=>?_⟩ (by simp only;omega)) (by simp)
  ·simp only;rw[Ef er l j z1,<-Wd,<-g4]
  ·simp only;rw[Qv bs l j z1,zL];omega
  simp only at h |-;rw[k4 h,g6 zd,Qv bs l j z1];simp
 have ze:j=l.length:=by simp at h;omega
 subst ze;repeat(refine s_ ?_;simp)
 rw[yV]at g4 g5 g6;refine⟨rfl,t,p,?_,g2,by omega,λh=>?_⟩
 ·rw[<-g4];exact g1
 rw[g6 (by rw[g4];exact h),Rh];simp
def Js (l:List Rdr) (hl:l.length<=1000000) (f:FuncId) (fs cs:List AV) (bs:Rdr->List UInt8) (er:Rdr->Int) (H:List AObj) (q:Nat) (o:Option Nat) (out:List UInt8) (e:Int) (hw:WA H q out e o) (hb:out.length+(Rh bs l).length<=1000000000)
  (z8:∀x∈l,∀(H':List AObj) (o':Option Nat) (out':List UInt8) (e':Int),WA H' q out' e' o'->Fr H H' q o o'->out'.length+(bs x).length<=1000000000->FC prog f (fs++[avRdr x]++cs) H' (WP H' q o' out' e' (bs x) (er x))):
  FC prog 123 [.vptr q 0,.list (l.map avRdr),.fn (.func f) fs cs] H (WP H q o out e (Rh bs l) (Rz er l)):=by
 refine fcB func123 results123 ntmps123 ?_;simp only[Qf];have zf:=Y1 bs l;repeat(refine s_ ?_;simp)
 by_cases hm:4096<l.length
 ·refine Qb rfl (λ_=>?_) (λh=>by simp at h;omega);repeat(refine s_ ?_;simp)
  refine Qd rfl rfl (Ru H q o out e 5 hw) rfl ?_;rintro _ _ ⟨rfl,rfl⟩;have w1:=hw.err (orE e 5);have f1:=Fr.set H q o (wX out.length (orE e 5) o);have za:=Y0 e;generalize H.set q (wX out.length (orE e 5) o)=H1 at *
  simp;repeat(refine s_ ?_;simp)
  refine Qd rfl rfl (Wk H1 q o out _ l.length (by constructor<;>omega) w1 (by omega)) rfl ?_;rintro _ H2 ⟨rfl,o2,w2,f2,_⟩;simp;repeat(refine s_ ?_;simp)
  refine Qk (Q3 ?_);have h0:0<l.length:=by omega
  repeat(refine s_ ?_;simp)
  refine Qb rfl (λ_=>?_) (λh=>by have:=of_decide_eq_false h;omega);have g2:∀A:AObj,(H2++[A])[q]?=some (.vars [Ag (out++Wm l.length).length o2,.i (orE e 5)]):=λA=>Qc w2.1 _;repeat(refine s_ ?_;simp[h0,g2])
  refine Qb rfl (λ_=>?_) (λh=>by simp[za]at h);repeat(refine s_ ?_;simp)
  refine⟨rfl,out++Wm l.length,o2,?_,?_,?_,λh=>?_⟩
  ·rw[Rz,if_pos hm];exact w2.app _
  ·exact f1.trans (f2.trans ⟨by simp,.inl rfl,λj hj _ _=>zK hj⟩)
  ·rw[zL];omega
  rw[Rz,if_pos hm]at h;exact absurd h za
 refine Qb rfl (λh=>by simp at h;omega) (λ_=>?_);rw[Rz,if_neg hm];repeat(refine s_ ?_;simp)
 refine Qd rfl rfl (Wk H q o out e l.length (by constructor<;>omega) hw (by omega)) rfl ?_;rintro _ H2 ⟨rfl,o2,w2,f2,_⟩;simp;repeat(refine s_ ?_;simp)
 refine Qk (Qg (sl':=[(0,.vptr q 0),(2,.fn (.func f) fs cs),(17,.list (l.map avRdr)),(18,.i l.length),(19,.i 0)]) ?_ (by simp));refine Qp (F:=λ(u:Nat×List UInt8×Int×Option Nat×List AObj)=>⟨[(0,.vptr q 0),(2,.fn (.func f) fs cs),(17,.list (l.map avRdr)),(18,.i l.length),(19,.i u.1)],u.2.2.2.2⟩)
  (λu=>WA u.2.2.2.2 q u.2.1 u.2.2.1 u.2.2.2.1/\Fr H u.2.2.2.2 q o u.2.2.2.1/\u.1<=l.length/\u.2.2.1=orE e (We er (l.take u.1))/\u.2.1.length<=out.length+(Wm l.length).length+((l.take u.1).flatMap bs).length/\(u.2.2.1=0->u.2.1=out++Wm l.length++(l.take u.1).flatMap bs)) (λu=>l.length - u.1) ?_
  (0,out++Wm l.length,e,o2,H2) ⟨w2,f2,yO _,by simp[We,Rc],by simp,λ_=>by simp⟩
 rintro⟨j,t,ej,p,G⟩ ⟨g1,g2,g3,g4,g5,g6⟩ ih;simp only at g1 g2 g3 g4 g5 g6 ih |-;repeat(refine s_ ?_;simp)
 refine Qb rfl (λh=>?_) (λh=>?_)
 ·have z1:j<l.length:=by simpa using h
  have hw1:=wz j (by omega);have q1:∀A:AObj,(G++[A])[q]?=some (.vars [Ag t.length p,.i ej]):=λA=>Qc g1.1 _;repeat(refine s_ ?_;simp[z1,q1])
  refine Qb rfl (λhn=>?_) (λhz=>?_)
  ·have zb:ej≠0:=by simpa using hn
   repeat(refine s_ ?_;simp)
   have zc:orE e (We er l)=ej:=by
    conv=>lhs;rw[<-yN j l]
    rw[W9,<-Wd,<-g4,U0 zb]
   refine⟨rfl,t,p,?_,?_,?_,λhz=>?_⟩
   ·rw[zc];exact g1.app _
   ·exact g2.trans ⟨by simp,.inl rfl,λj hj _ _=>zK hj⟩
   ·have:=Ed bs l j;omega
   rw[zc]at hz;exact absurd hz zb
  have zd:ej=0:=by simpa using hz
  have hle:=Ed bs l (j+1);rw[Qv bs l j z1,zL]at hle;repeat(refine s_ ?_;simp)
  refine Qd rfl rfl (z8 l[j] (yB z1) _ p t ej (g1.app _) (g2.trans ⟨by simp,.inl rfl,λj hj _ _=>zK hj⟩) (by omega)) rfl ?_;rintro _ G2 ⟨rfl,t2,p2,k1,k2,k3,k4⟩;simp;repeat(refine s_ ?_;simp[hw1])
  refine Qg (ih (j+1,t2,orE ej (er l[j]),p2,G2) ⟨k1,g2.trans k2.cut,z1,?_,?_,λh=>?_⟩ (by simp only;omega)) (by simp)
  ·simp only;rw[Ef er l j z1,<-Wd,<-g4]
  ·simp only;rw[Qv bs l j z1,zL];omega
  simp only at h |-;rw[k4 h,g6 zd,Qv bs l j z1];simp
 have ze:j=l.length:=by simp at h;omega
 subst ze;repeat(refine s_ ?_;simp)
 rw[yV]at g4 g5 g6;refine⟨rfl,t,p,?_,g2,by omega,λh=>?_⟩
 ·rw[<-g4];exact g1
 rw[g6 (by rw[g4];exact h),Rh];simp
def Dk (l:List Opr) (hl:l.length<=1000000) (f:FuncId) (fs cs:List AV) (bs:Opr->List UInt8) (er:Opr->Int) (H:List AObj) (q:Nat) (o:Option Nat) (out:List UInt8) (e:Int) (hw:WA H q out e o) (hb:out.length+(Rh bs l).length<=1000000000)
  (z8:∀x∈l,∀(H':List AObj) (o':Option Nat) (out':List UInt8) (e':Int),WA H' q out' e' o'->Fr H H' q o o'->out'.length+(bs x).length<=1000000000->FC prog f (fs++[avOpr x]++cs) H' (WP H' q o' out' e' (bs x) (er x))):
  FC prog 125 [.vptr q 0,.list (l.map avOpr),.fn (.func f) fs cs] H (WP H q o out e (Rh bs l) (Rz er l)):=by
 refine fcB func125 results125 ntmps125 ?_;simp only[Qf];have zf:=Y1 bs l;repeat(refine s_ ?_;simp)
 by_cases hm:4096<l.length
 ·refine Qb rfl (λ_=>?_) (λh=>by simp at h;omega);repeat(refine s_ ?_;simp)
  refine Qd rfl rfl (Ru H q o out e 5 hw) rfl ?_;rintro _ _ ⟨rfl,rfl⟩;have w1:=hw.err (orE e 5);have f1:=Fr.set H q o (wX out.length (orE e 5) o);have za:=Y0 e;generalize H.set q (wX out.length (orE e 5) o)=H1 at *
  simp;repeat(refine s_ ?_;simp)
  refine Qd rfl rfl (Wk H1 q o out _ l.length (by constructor<;>omega) w1 (by omega)) rfl ?_;rintro _ H2 ⟨rfl,o2,w2,f2,_⟩;simp;repeat(refine s_ ?_;simp)
  refine Qk (Q3 ?_);have h0:0<l.length:=by omega
  repeat(refine s_ ?_;simp)
  refine Qb rfl (λ_=>?_) (λh=>by have:=of_decide_eq_false h;omega);have g2:∀A:AObj,(H2++[A])[q]?=some (.vars [Ag (out++Wm l.length).length o2,.i (orE e 5)]):=λA=>Qc w2.1 _;repeat(refine s_ ?_;simp[h0,g2])
  refine Qb rfl (λ_=>?_) (λh=>by simp[za]at h);repeat(refine s_ ?_;simp)
  refine⟨rfl,out++Wm l.length,o2,?_,?_,?_,λh=>?_⟩
  ·rw[Rz,if_pos hm];exact w2.app _
  ·exact f1.trans (f2.trans ⟨by simp,.inl rfl,λj hj _ _=>zK hj⟩)
  ·rw[zL];omega
  rw[Rz,if_pos hm]at h;exact absurd h za
 refine Qb rfl (λh=>by simp at h;omega) (λ_=>?_);rw[Rz,if_neg hm];repeat(refine s_ ?_;simp)
 refine Qd rfl rfl (Wk H q o out e l.length (by constructor<;>omega) hw (by omega)) rfl ?_;rintro _ H2 ⟨rfl,o2,w2,f2,_⟩;simp;repeat(refine s_ ?_;simp)
 refine Qk (Qg (sl':=[(0,.vptr q 0),(2,.fn (.func f) fs cs),(17,.list (l.map avOpr)),(18,.i l.length),(19,.i 0)]) ?_ (by simp));refine Qp (F:=λ(u:Nat×List UInt8×Int×Option Nat×List AObj)=>⟨[(0,.vptr q 0),(2,.fn (.func f) fs cs),(17,.list (l.map avOpr)),(18,.i l.length),(19,.i u.1)],u.2.2.2.2⟩)
  (λu=>WA u.2.2.2.2 q u.2.1 u.2.2.1 u.2.2.2.1/\Fr H u.2.2.2.2 q o u.2.2.2.1/\u.1<=l.length/\u.2.2.1=orE e (We er (l.take u.1))/\u.2.1.length<=out.length+(Wm l.length).length+((l.take u.1).flatMap bs).length/\(u.2.2.1=0->u.2.1=out++Wm l.length++(l.take u.1).flatMap bs)) (λu=>l.length - u.1) ?_
  (0,out++Wm l.length,e,o2,H2) ⟨w2,f2,yO _,by simp[We,Rc],by simp,λ_=>by simp⟩
 rintro⟨j,t,ej,p,G⟩ ⟨g1,g2,g3,g4,g5,g6⟩ ih;simp only at g1 g2 g3 g4 g5 g6 ih |-;repeat(refine s_ ?_;simp)
 refine Qb rfl (λh=>?_) (λh=>?_)
 ·have z1:j<l.length:=by simpa using h
  have hw1:=wz j (by omega);have q1:∀A:AObj,(G++[A])[q]?=some (.vars [Ag t.length p,.i ej]):=λA=>Qc g1.1 _;repeat(refine s_ ?_;simp[z1,q1])
  refine Qb rfl (λhn=>?_) (λhz=>?_)
  ·have zb:ej≠0:=by simpa using hn
   repeat(refine s_ ?_;simp)
   have zc:orE e (We er l)=ej:=by
    conv=>lhs;rw[<-yN j l]
    rw[W9,<-Wd,<-g4,U0 zb]
   refine⟨rfl,t,p,?_,?_,?_,λhz=>?_⟩
   ·rw[zc];exact g1.app _
   ·exact g2.trans ⟨by simp,.inl rfl,λj hj _ _=>zK hj⟩
   ·have:=Ed bs l j;omega
   rw[zc]at hz;exact absurd hz zb
  have zd:ej=0:=by simpa using hz
  have hle:=Ed bs l (j+1);rw[Qv bs l j z1,zL]at hle;repeat(refine s_ ?_;simp)
  refine Qd rfl rfl (z8 l[j] (yB z1) _ p t ej (g1.app _) (g2.trans ⟨by simp,.inl rfl,λj hj _ _=>zK hj⟩) (by omega)) rfl ?_;rintro _ G2 ⟨rfl,t2,p2,k1,k2,k3,k4⟩;simp;repeat(refine s_ ?_;simp[hw1])
  refine Qg (ih (j+1,t2,orE ej (er l[j]),p2,G2) ⟨k1,g2.trans k2.cut,z1,?_,?_,λh=>?_⟩ (by simp only;omega)) (by simp)
  ·simp only;rw[Ef er l j z1,<-Wd,<-g4]
  ·simp only;rw[Qv bs l j z1,zL];omega
  simp only at h |-;rw[k4 h,g6 zd,Qv bs l j z1];simp
 have ze:j=l.length:=by simp at h;omega
 subst ze;repeat(refine s_ ?_;simp)
 rw[yV]at g4 g5 g6;refine⟨rfl,t,p,?_,g2,by omega,λh=>?_⟩
 ·rw[<-g4];exact g1
 rw[g6 (by rw[g4];exact h),Rh];simp
def Z7 (l:List Kyd) (hl:l.length<=1000000) (f:FuncId) (fs cs:List AV) (bs:Kyd->List UInt8) (er:Kyd->Int) (H:List AObj) (q:Nat) (o:Option Nat) (out:List UInt8) (e:Int) (hw:WA H q out e o) (hb:out.length+(Rh bs l).length<=1000000000)
  (z8:∀x∈l,∀(H':List AObj) (o':Option Nat) (out':List UInt8) (e':Int),WA H' q out' e' o'->Fr H H' q o o'->out'.length+(bs x).length<=1000000000->FC prog f (fs++[avKyd x]++cs) H' (WP H' q o' out' e' (bs x) (er x))):
  FC prog 167 [.vptr q 0,.list (l.map avKyd),.fn (.func f) fs cs] H (WP H q o out e (Rh bs l) (Rz er l)):=by
 refine fcB func167 results167 ntmps167 ?_;simp only[Qf];have zf:=Y1 bs l;repeat(refine s_ ?_;simp)
 by_cases hm:4096<l.length
 ·refine Qb rfl (λ_=>?_) (λh=>by simp at h;omega);repeat(refine s_ ?_;simp)
  refine Qd rfl rfl (Ru H q o out e 5 hw) rfl ?_;rintro _ _ ⟨rfl,rfl⟩;have w1:=hw.err (orE e 5);have f1:=Fr.set H q o (wX out.length (orE e 5) o);have za:=Y0 e;generalize H.set q (wX out.length (orE e 5) o)=H1 at *
  simp;repeat(refine s_ ?_;simp)
  refine Qd rfl rfl (Wk H1 q o out _ l.length (by constructor<;>omega) w1 (by omega)) rfl ?_;rintro _ H2 ⟨rfl,o2,w2,f2,_⟩;simp;repeat(refine s_ ?_;simp)
  refine Qk (Q3 ?_);have h0:0<l.length:=by omega
  repeat(refine s_ ?_;simp)
  refine Qb rfl (λ_=>?_) (λh=>by have:=of_decide_eq_false h;omega);have g2:∀A:AObj,(H2++[A])[q]?=some (.vars [Ag (out++Wm l.length).length o2,.i (orE e 5)]):=λA=>Qc w2.1 _;repeat(refine s_ ?_;simp[h0,g2])
  refine Qb rfl (λ_=>?_) (λh=>by simp[za]at h);repeat(refine s_ ?_;simp)
  refine⟨rfl,out++Wm l.length,o2,?_,?_,?_,λh=>?_⟩
  ·rw[Rz,if_pos hm];exact w2.app _
  ·exact f1.trans (f2.trans ⟨by simp,.inl rfl,λj hj _ _=>zK hj⟩)
  ·rw[zL];omega
  rw[Rz,if_pos hm]at h;exact absurd h za
 refine Qb rfl (λh=>by simp at h;omega) (λ_=>?_);rw[Rz,if_neg hm];repeat(refine s_ ?_;simp)
 refine Qd rfl rfl (Wk H q o out e l.length (by constructor<;>omega) hw (by omega)) rfl ?_;rintro _ H2 ⟨rfl,o2,w2,f2,_⟩;simp;repeat(refine s_ ?_;simp)
 refine Qk (Qg (sl':=[(0,.vptr q 0),(2,.fn (.func f) fs cs),(17,.list (l.map avKyd)),(18,.i l.length),(19,.i 0)]) ?_ (by simp));refine Qp (F:=λ(u:Nat×List UInt8×Int×Option Nat×List AObj)=>⟨[(0,.vptr q 0),(2,.fn (.func f) fs cs),(17,.list (l.map avKyd)),(18,.i l.length),(19,.i u.1)],u.2.2.2.2⟩)
  (λu=>WA u.2.2.2.2 q u.2.1 u.2.2.1 u.2.2.2.1/\Fr H u.2.2.2.2 q o u.2.2.2.1/\u.1<=l.length/\u.2.2.1=orE e (We er (l.take u.1))/\u.2.1.length<=out.length+(Wm l.length).length+((l.take u.1).flatMap bs).length/\(u.2.2.1=0->u.2.1=out++Wm l.length++(l.take u.1).flatMap bs)) (λu=>l.length - u.1) ?_
  (0,out++Wm l.length,e,o2,H2) ⟨w2,f2,yO _,by simp[We,Rc],by simp,λ_=>by simp⟩
 rintro⟨j,t,ej,p,G⟩ ⟨g1,g2,g3,g4,g5,g6⟩ ih;simp only at g1 g2 g3 g4 g5 g6 ih |-;repeat(refine s_ ?_;simp)
 refine Qb rfl (λh=>?_) (λh=>?_)
 ·have z1:j<l.length:=by simpa using h
  have hw1:=wz j (by omega);have q1:∀A:AObj,(G++[A])[q]?=some (.vars [Ag t.length p,.i ej]):=λA=>Qc g1.1 _;repeat(refine s_ ?_;simp[z1,q1])
  refine Qb rfl (λhn=>?_) (λhz=>?_)
  ·have zb:ej≠0:=by simpa using hn
   repeat(refine s_ ?_;simp)
   have zc:orE e (We er l)=ej:=by
    conv=>lhs;rw[<-yN j l]
    rw[W9,<-Wd,<-g4,U0 zb]
   refine⟨rfl,t,p,?_,?_,?_,λhz=>?_⟩
   ·rw[zc];exact g1.app _
   ·exact g2.trans ⟨by simp,.inl rfl,λj hj _ _=>zK hj⟩
   ·have:=Ed bs l j;omega
   rw[zc]at hz;exact absurd hz zb
  have zd:ej=0:=by simpa using hz
  have hle:=Ed bs l (j+1);rw[Qv bs l j z1,zL]at hle;repeat(refine s_ ?_;simp)
  refine Qd rfl rfl (z8 l[j] (yB z1) _ p t ej (g1.app _) (g2.trans ⟨by simp,.inl rfl,λj hj _ _=>zK hj⟩) (by omega)) rfl ?_;rintro _ G2 ⟨rfl,t2,p2,k1,k2,k3,k4⟩;simp;repeat(refine s_ ?_;simp[hw1])
  refine Qg (ih (j+1,t2,orE ej (er l[j]),p2,G2) ⟨k1,g2.trans k2.cut,z1,?_,?_,λh=>?_⟩ (by simp only;omega)) (by simp)
  ·simp only;rw[Ef er l j z1,<-Wd,<-g4]
  ·simp only;rw[Qv bs l j z1,zL];omega
  simp only at h |-;rw[k4 h,g6 zd,Qv bs l j z1];simp
 have ze:j=l.length:=by simp at h;omega
 subst ze;repeat(refine s_ ?_;simp)
 rw[yV]at g4 g5 g6;refine⟨rfl,t,p,?_,g2,by omega,λh=>?_⟩
 ·rw[<-g4];exact g1
 rw[g6 (by rw[g4];exact h),Rh];simp
def jV(v:Val):Prop:=i64 v.kind/\i64 v.num
def jEv(e:Ev):Prop:=iEv e/\e.values.length<=1000000/\∀v∈e.values,jV v
def u11(c:Cfg):Prop:=v1j c/\c.binds.length<=1000000/\c.starts.length<=1000000
def k1c(x:Eng):Prop:=i64 x.mark/\(x.waiting.length<=1000000/\∀e∈x.waiting,jEv e)/\(x.runs.length<=1000000/\∀c∈x.runs,u11 c)/\(x.held.length<=1000000/\∀e∈x.held,jEv e)
def u14(r:Rdr):Prop:=u1g r/\r.trk.beyond.length<=1000000/\r.trk.points.length<=1000000
def k1m(k:Kyd):Prop:=i64 k.query/\jV k.key/\k1c k.eng
def u13(o:Opr):Prop:=(o.marks.length<=1000000/\∀n∈o.marks,i64 n)/\o.engines.length<=1000000/\∀k∈o.engines,k1m k
def g0i(s:Snp):Prop:=i64 s.number/\(s.readers.length<=1000000/\∀r∈s.readers,u14 r)/\s.operators.length<=1000000/\∀o∈s.operators,u13 o
def WI.trans {H H1 H2:List AObj} {q:Nat} {o o1:Option Nat} {out:List UInt8} {e:Int} {b1 b2:List UInt8} {r2:Int} {r:AV} (hf:Fr H H1 q o o1)
  (h:WP H1 q o1 (out++b1) e b2 r2 r H2):WP H q o out e (b1++b2) r2 r H2:=by
 have h':WP H1 q o1 (out++b1) (orE e 0) b2 r2 r H2:=by rw[Rc];exact h
 have:=WP.trans (o:=o) hf (by simp) (λ_=>rfl) h'
 rwa [y0c]at this
def Rw{H:List AObj}{q:Nat}{out:List UInt8}{e:Int}{o:Option Nat}(h:WA H q out e o)(k:Nat):H.length+k≠q/\some (H.length+k)≠o:=
 ⟨by have:=h.lt;omega,λx=>by have:=h.olt x.symm;omega⟩
def Wg{H:List AObj}{q:Nat}{out:List UInt8}{e:Int}{o:Option Nat}(h:WA H q out e o):H.length≠q/\some H.length≠o:=Rw h 0
def Ln(x:Ev)(hi:jEv x)(H:List AObj)(q:Nat)(o:Option Nat)(out:List UInt8)(e:Int)(hw:WA H q out e o)(hb:out.length+(Ss x).length<=1000000000):
  FC prog 197 [.vptr q 0,encE x] H (WP H q o out e (Ss x) (Cu x)):=by
 refine fcB func197 results197 ntmps197 ?_;simp only[Qf];have heq:Ss x=[x.source,x.seq,x.type,x.time].flatMap Wm++Rh Yi x.values:=by simp[Ss]
 have z1:=hb;rw[heq]at z1;rw[zL]at z1;obtain⟨⟨i1,i2,i3,i4⟩,hl,hv⟩:=hi;repeat(refine s_ ?_;simp)
 refine Qd rfl rfl (Pw [x.source,x.seq,x.type,x.time] (by simp) (by simp[i1,i2,i3,i4]) _ q o out e (H.length+1) (hw.app _) (by simp) (Rw hw 1).1 (Rw hw 1).2 (by omega)) rfl ?_;rintro _ G1 ⟨rfl,o1,w1,f1,_⟩;have c1:=f1.keep (j:=H.length) (x:= .vars [.i x.source,.i x.seq,.i x.type,.i x.time,.list (x.values.map encV)]) (by simp) (Wg hw).1 (Wg hw).2;simp;repeat(refine s_ ?_;simp[c1])
 refine Qd rfl rfl (Xd x.values hl _ [.vptr q 0] [] Yi Ej G1 q o1 _ e w1 (by rw[zL];omega) (λv z8 H' o' out' e' a _ c=>Xl v (hv v z8) H' q o' out' e' a c)) rfl ?_;rintro _ G2 ⟨rfl,h⟩;simp;repeat(refine s_ ?_;simp)
 rw[heq,show Cu x=Rz Ej x.values from rfl];exact WP.cut (WI.trans f1 ⟨rfl,h⟩)
def v03(b:Bnd)(hi:k0w b)(H:List AObj)(q:Nat)(o:Option Nat)(out:List UInt8)(e:Int)(c:Nat)(hw:WA H q out e o)(hc:H[c]?=some (.vars [.vptr q 0]))(hb:out.length+(Pt b).length<=1000000000):
  FC prog 220 [avBnd b,.vptr c 0] H (WP H q o out e (Pt b) 0):=by
 refine fcB func220 results220 ntmps220 ?_;simp only[Qf];have heq:Pt b=[b.var,b.ref.time,b.ref.source,b.ref.seq].flatMap Wm:=by simp[Pt]
 rw[heq]at hb;obtain⟨i1,i2,i3,i4⟩:=hi;have z1:∀A:AObj,(H++[A])[c]?=some (.vars [.vptr q 0]):=λA=>Qc hc _;repeat(refine s_ ?_;simp[z1])
 refine Qd rfl rfl (Pw [b.var,b.ref.time,b.ref.source,b.ref.seq] (by simp) (by simp[i1,i2,i3,i4]) _ q o out e (H.length+1) (hw.app _) (by simp) (Rw hw 1).1 (Rw hw 1).2 (by omega)) rfl ?_;rintro _ G1 ⟨rfl,h⟩;simp;repeat(refine s_ ?_;simp)
 rw[heq];exact WP.cut (WI.wp ⟨rfl,h⟩)
def j0j(b:Stt)(hi:u0g b)(H:List AObj)(q:Nat)(o:Option Nat)(out:List UInt8)(e:Int)(c:Nat)(hw:WA H q out e o)(hc:H[c]?=some (.vars [.vptr q 0]))(hb:out.length+(Py b).length<=1000000000):
  FC prog 222 [avStt b,.vptr c 0] H (WP H q o out e (Py b) 0):=by
 refine fcB func222 results222 ntmps222 ?_;simp only[Qf];have heq:Py b=[b.scope,b.time].flatMap Wm:=by simp[Py]
 rw[heq]at hb;obtain⟨i1,i2⟩:=hi;have z1:∀A:AObj,(H++[A])[c]?=some (.vars [.vptr q 0]):=λA=>Qc hc _;repeat(refine s_ ?_;simp[z1])
 refine Qd rfl rfl (Pw [b.scope,b.time] (by simp) (by simp[i1,i2]) _ q o out e (H.length+1) (hw.app _) (by simp) (Rw hw 1).1 (Rw hw 1).2 (by omega)) rfl ?_;rintro _ G1 ⟨rfl,h⟩;simp;repeat(refine s_ ?_;simp)
 rw[heq];exact WP.cut (WI.wp ⟨rfl,h⟩)
def v0z(b:Pnt)(hi:j0f b)(H:List AObj)(q:Nat)(o:Option Nat)(out:List UInt8)(e:Int)(c:Nat)(hw:WA H q out e o)(hc:H[c]?=some (.vars [.vptr q 0]))(hb:out.length+(Is b).length<=1000000000):
  FC prog 166 [avPnt b,.vptr c 0] H (WP H q o out e (Is b) 0):=by
 refine fcB func166 results166 ntmps166 ?_;simp only[Qf];have heq:Is b=[b.seq,b.time].flatMap Wm:=by simp[Is]
 rw[heq]at hb;obtain⟨i1,i2⟩:=hi;have z1:∀A:AObj,(H++[A])[c]?=some (.vars [.vptr q 0]):=λA=>Qc hc _;repeat(refine s_ ?_;simp[z1])
 refine Qd rfl rfl (Pw [b.seq,b.time] (by simp) (by simp[i1,i2]) _ q o out e (H.length+1) (hw.app _) (by simp) (Rw hw 1).1 (Rw hw 1).2 (by omega)) rfl ?_;rintro _ G1 ⟨rfl,h⟩;simp;repeat(refine s_ ?_;simp)
 rw[heq];exact WP.cut (WI.wp ⟨rfl,h⟩)
def B8(x:Cfg)(hi:u11 x)(H:List AObj)(q:Nat)(o:Option Nat)(out:List UInt8)(e:Int)(hw:WA H q out e o)(hb:out.length+(Pn x).length<=1000000000):
  FC prog 199 [.vptr q 0,avCfg x] H (WP H q o out e (Pn x) (V9 x)):=by
 refine fcB func199 results199 ntmps199 ?_;simp only[Qf];have hle:(Pn x).length=(Wm x.state).length+((Rh Pt x.binds).length+(Rh Py x.starts).length):=by simp[Pn]
 obtain⟨⟨i1,i2,i3⟩,hl,hv⟩:=hi;repeat(refine s_ ?_;simp)
 refine Qd rfl rfl (Wk _ q o out e x.state i1 (hw.app _) (by omega)) rfl ?_;rintro _ G1 ⟨rfl,o1,w1,f1,_⟩;have c1:=f1.keep (j:=H.length) (x:= .vars [.vptr q 0]) (by simp) (Wg hw).1 (Wg hw).2;have d1:=f1.keep (j:=H.length+1) (x:= .vars [.i x.state,.list (x.binds.map avBnd),.list (x.starts.map avStt)]) (by simp) (Rw hw 1).1 (Rw hw 1).2;have n1:=f1.own (j:=H.length) (by simp) (Wg hw).2;have m1:=f1.own (j:=H.length+1) (by simp) (Rw hw 1).2;simp;repeat(refine s_ ?_;simp[c1,d1])
 refine Qd rfl rfl (Gh x.binds hl _ [] [.vptr H.length 0] Pt noE G1 q o1 _ e w1 (by rw[zL];omega) (λb z1 H' o' out' e' a fr c=>v03 b (i2 b z1) H' q o' out' e' _ a (fr.keep c1 (Wg hw).1 n1) c)) rfl ?_;rintro _ G2 ⟨rfl,t2,o2,w2,f2,l2,e2⟩;have c2:=f2.keep c1 (Wg hw).1 n1;have d2:=f2.keep d1 (Rw hw 1).1 m1;have n2:=f2.own (zD.1 c1).1 n1;simp;repeat(refine s_ ?_;simp[c2,d2])
 rw[zL]at l2;refine Qd rfl rfl (Lb x.starts hv _ [] [.vptr H.length 0] Py noE G2 q o2 _ _ w2 (by omega) (λb z1 H' o' out' e' a fr c=>j0j b (i3 b z1) H' q o' out' e' _ a (fr.keep c2 (Wg hw).1 n2) c)) rfl ?_;rintro _ G3 ⟨rfl,h⟩;simp;repeat(refine s_ ?_;simp)
 exact WP.cut (WI.trans f1 (WP.trans f2 (by rw[zL];omega) e2 ⟨rfl,h⟩))
def q0o(x:Eng)(hi:k1c x)(H:List AObj)(q:Nat)(o:Option Nat)(out:List UInt8)(e:Int)(hw:WA H q out e o)(hb:out.length+(Pq x).length<=1000000000):
  FC prog 170 [.vptr q 0,avEng x] H (WP H q o out e (Pq x) (Vu x)):=by
 refine fcB func170 results170 ntmps170 ?_;simp only[Qf];have hle:(Pq x).length=(Wm x.mark).length+((Rh Ss x.waiting).length+((Rh Pn x.runs).length+(Rh Ss x.held).length)):=by simp[Pq]
 obtain⟨i1,⟨l1,i2⟩,⟨l2,i3⟩,l3,i4⟩:=hi;repeat(refine s_ ?_;simp)
 refine Qd rfl rfl (Wk _ q o out e x.mark i1 (hw.app _) (by omega)) rfl ?_;rintro _ G1 ⟨rfl,o1,w1,f1,_⟩;have d1:=f1.keep (j:=H.length) (x:= .vars [.i x.mark,.list (x.waiting.map encE),.list (x.runs.map avCfg),.list (x.held.map encE)]) (by simp) (Wg hw).1 (Wg hw).2;have m1:=f1.own (j:=H.length) (by simp) (Wg hw).2;simp;repeat(refine s_ ?_;simp[d1])
 refine Qd rfl rfl (A9 x.waiting l1 _ [.vptr q 0] [] Ss Cu G1 q o1 _ e w1 (by rw[zL];omega) (λb z1 H' o' out' e' a fr c=>Ln b (i2 b z1) H' q o' out' e' a c)) rfl ?_;rintro _ G2 ⟨rfl,t2,o2,w2,f2,k2,e2⟩;have d2:=f2.keep d1 (Wg hw).1 m1;have m2:=f2.own (zD.1 d1).1 m1;simp;repeat(refine s_ ?_;simp[d2])
 rw[zL]at k2;refine Qd rfl rfl (Jw x.runs l2 _ [.vptr q 0] [] Pn V9 G2 q o2 _ _ w2 (by omega) (λb z1 H' o' out' e' a fr c=>B8 b (i3 b z1) H' q o' out' e' a c)) rfl ?_;rintro _ G3 ⟨rfl,t3,o3,w3,f3,k3,e3⟩;have d3:=f3.keep d2 (Wg hw).1 m2;simp;repeat(refine s_ ?_;simp[d3])
 refine Qd rfl rfl (A9 x.held l3 _ [.vptr q 0] [] Ss Cu G3 q o3 _ _ w3 (by omega) (λb z1 H' o' out' e' a fr c=>Ln b (i4 b z1) H' q o' out' e' a c)) rfl ?_;rintro _ G4 ⟨rfl,h⟩;simp;repeat(refine s_ ?_;simp)
 exact WP.cut (WI.trans f1 (WP.trans f2 (by rw[zL];omega) e2 (WP.trans f3 k3 e3 ⟨rfl,h⟩)))
def Nf(x:Rdr)(hi:u14 x)(H:List AObj)(q:Nat)(o:Option Nat)(out:List UInt8)(e:Int)(hw:WA H q out e o)(hb:out.length+(Ub x).length<=1000000000):
  FC prog 124 [.vptr q 0,avRdr x] H (WP H q o out e (Ub x) (Sc x)):=by
 refine fcB func124 results124 ntmps124 ?_;simp only[Qf];have heq:Ub x=[x.source,x.offset,x.trk.next].flatMap Wm++(Rh Wm x.trk.beyond++(Rh Is x.trk.points++Wm x.trk.mark)):=by simp[Ub,Gj]
 have hle:(Ub x).length=([x.source,x.offset,x.trk.next].flatMap Wm).length+((Rh Wm x.trk.beyond).length+((Rh Is x.trk.points).length+(Wm x.trk.mark).length)):=by rw[heq];simp only[zL]
 obtain⟨⟨i1,i2,i3,i4,i5,i6⟩,l1,l2⟩:=hi;repeat(refine s_ ?_;simp)
 refine Qd rfl rfl (Pw [x.source,x.offset,x.trk.next] (by simp) (by simp[i1,i2,i3]) _ q o out e (H.length+2) (hw.app _) (by simp) (Rw hw 2).1 (Rw hw 2).2 (by omega)) rfl ?_;rintro _ G1 ⟨rfl,o1,w1,f1,_⟩;have c1:=f1.keep (j:=H.length) (x:= .vars [.vptr q 0]) (by simp) (Wg hw).1 (Wg hw).2;have d1:=f1.keep (j:=H.length+1) (x:= .vars [.i x.source,.i x.offset,.i x.trk.next,.list (x.trk.beyond.map encI),.list (x.trk.points.map avPnt),.i x.trk.mark]) (by simp) (Rw hw 1).1 (Rw hw 1).2;have n1:=f1.own (j:=H.length) (by simp) (Wg hw).2;have m1:=f1.own (j:=H.length+1) (by simp) (Rw hw 1).2;simp;repeat(refine s_ ?_;simp[c1,d1])
 refine Qd rfl rfl (He x.trk.beyond l1 _ [.vptr q 0] [] Wm noE G1 q o1 _ e w1 (by rw[zL];omega) (λb z1 H' o' out' e' a fr c=>(Wk H' q o' out' e' b (i4 b z1) a c).mono λ_ _ h=>h.wp)) rfl ?_;rintro _ G2 ⟨rfl,t2,o2,w2,f2,k2,e2⟩;have c2:=f2.keep c1 (Wg hw).1 n1;have d2:=f2.keep d1 (Rw hw 1).1 m1;have n2:=f2.own (zD.1 c1).1 n1;have m2:=f2.own (zD.1 d1).1 m1;simp;repeat(refine s_ ?_;simp[c2,d2])
 rw[zL]at k2;refine Qd rfl rfl (Kw x.trk.points l2 _ [] [.vptr H.length 0] Is noE G2 q o2 _ _ w2 (by omega) (λb z1 H' o' out' e' a fr c=>v0z b (i5 b z1) H' q o' out' e' _ a (fr.keep c2 (Wg hw).1 n2) c)) rfl ?_;rintro _ G3 ⟨rfl,t3,o3,w3,f3,k3,e3⟩;have c3:=f3.keep c2 (Wg hw).1 n2;have d3:=f3.keep d2 (Rw hw 1).1 m2;simp;repeat(refine s_ ?_;simp[c3,d3])
 refine Qd rfl rfl (Wk G3 q o3 _ _ x.trk.mark i6 w3 (by omega)) rfl ?_;rintro _ G4 ⟨rfl,h⟩;simp;repeat(refine s_ ?_;simp)
 rw[heq,show Sc x=orE (Rz noE x.trk.beyond) (orE (Rz noE x.trk.points) 0) by rw[Rc];rfl];exact WP.cut (WI.trans f1 (WP.trans f2 (by rw[zL];omega) e2 (WP.trans f3 k3 e3 (WI.wp ⟨rfl,h⟩))))
def c0a(x:Kyd)(hi:k1m x)(H:List AObj)(q:Nat)(o:Option Nat)(out:List UInt8)(e:Int)(c:Nat)(hw:WA H q out e o)(hc:H[c]?=some (.vars [.vptr q 0]))(z8:c≠q)(za:some c≠o)(hb:out.length+(U1 x).length<=1000000000):
  FC prog 168 [avKyd x,.vptr c 0] H (WP H q o out e (U1 x) (Gs x)):=by
 refine fcB func168 results168 ntmps168 ?_;simp only[Qf];have hle:(U1 x).length=(Wm x.query).length+((Yi x.key).length+(Pq x.eng).length):=by simp[U1]
 obtain⟨i1,i2,i3⟩:=hi;have z1:∀A:AObj,(H++[A])[c]?=some (.vars [.vptr q 0]):=λA=>Qc hc _;repeat(refine s_ ?_;simp[z1])
 refine Qd rfl rfl (Wk _ q o out e x.query i1 (hw.app _) (by omega)) rfl ?_;rintro _ G1 ⟨rfl,o1,w1,f1,_⟩;have c1:=f1.keep (z1 _) z8 za;have n1:=f1.own (zD.1 (z1 _)).1 za;have d1:=f1.keep (j:=H.length) (x:= .vars [.i x.query,.i x.key.kind,.i x.key.num,.str x.key.text,.i x.eng.mark,.list (x.eng.waiting.map encE),.list (x.eng.runs.map avCfg),.list (x.eng.held.map encE)]) (by simp) (Wg hw).1 (Wg hw).2;have m1:=f1.own (j:=H.length) (by simp) (Wg hw).2;simp;repeat(refine s_ ?_;simp[c1,d1])
 refine Qd rfl rfl (Xl x.key i2 G1 q o1 _ e w1 (by rw[zL];omega)) rfl ?_;rintro _ G2 ⟨rfl,t2,o2,w2,f2,k2,e2⟩;have c2:=f2.keep c1 z8 n1;have d2:=f2.keep d1 (Wg hw).1 m1;simp;repeat(refine s_ ?_;simp[c2,d2])
 rw[zL]at k2;refine Qd rfl rfl (q0o x.eng i3 G2 q o2 _ _ w2 (by omega)) rfl ?_;rintro _ G3 ⟨rfl,h⟩;simp;repeat(refine s_ ?_;simp)
 rw[show U1 x=Wm x.query++(Yi x.key++Pq x.eng) from rfl,show Gs x=orE (Ej x.key) (Vu x.eng) from rfl];exact WP.cut (WI.trans f1 (WP.trans f2 (by rw[zL];omega) e2 ⟨rfl,h⟩))
def Z4(x:Opr)(hi:u13 x)(H:List AObj)(q:Nat)(o:Option Nat)(out:List UInt8)(e:Int)(hw:WA H q out e o)(hb:out.length+(Ue x).length<=1000000000):
  FC prog 126 [.vptr q 0,avOpr x] H (WP H q o out e (Ue x) (Pf x)):=by
 refine fcB func126 results126 ntmps126 ?_;simp only[Qf];have hle:(Ue x).length=(Rh Wm x.marks).length+(Rh U1 x.engines).length:=by simp[Ue]
 obtain⟨⟨l1,i1⟩,l2,i2⟩:=hi;repeat(refine s_ ?_;simp)
 refine Qd rfl rfl (He x.marks l1 _ [.vptr q 0] [] Wm noE _ q o out e (hw.app _) (by omega) (λb z1 H' o' out' e' a fr c=>(Wk H' q o' out' e' b (i1 b z1) a c).mono λ_ _ h=>h.wp)) rfl ?_;rintro _ G1 ⟨rfl,t1,o1,w1,f1,k1,e1⟩;have c1:=f1.keep (j:=H.length) (x:= .vars [.vptr q 0]) (by simp) (Wg hw).1 (Wg hw).2;have d1:=f1.keep (j:=H.length+1) (x:= .vars [.list (x.marks.map encI),.list (x.engines.map avKyd)]) (by simp) (Rw hw 1).1 (Rw hw 1).2;have n1:=f1.own (j:=H.length) (by simp) (Wg hw).2;have r1:=(zD.1 c1).1;simp;repeat(refine s_ ?_;simp[c1,d1])
 refine Qd rfl rfl (Z7 x.engines l2 _ [] [.vptr H.length 0] U1 Gs G1 q o1 _ _ w1 (by omega) (λb z1 H' o' out' e' a fr c=>c0a b (i2 b z1) H' q o' out' e' _ a (fr.keep c1 (Wg hw).1 n1) (Wg hw).1 (fr.own r1 n1) c)) rfl ?_;rintro _ G2 ⟨rfl,h⟩;simp;repeat(refine s_ ?_;simp)
 rw[show Ue x=Rh Wm x.marks++Rh U1 x.engines from rfl,show Pf x=orE (Rz noE x.marks) (Rz Gs x.engines) from rfl];exact WP.cut (WP.trans f1 k1 e1 ⟨rfl,h⟩)
def Lh(x:Snp)(hi:g0i x)(H:List AObj)(q:Nat)(o:Option Nat)(out:List UInt8)(e:Int)(hw:WA H q out e o)(hb:out.length+(W2 x).length<=1000000000):
  FC prog 100 [.vptr q 0,avSnp x] H (WP H q o out e (W2 x) (U2 x)):=by
 refine fcB func100 results100 ntmps100 ?_;simp only[Qf];have hle:(W2 x).length=(Wm x.number).length+((Rh Ub x.readers).length+(Rh Ue x.operators).length):=by simp[W2]
 obtain⟨i1,⟨l1,i2⟩,l2,i3⟩:=hi;repeat(refine s_ ?_;simp)
 refine Qd rfl rfl (Wk _ q o out e x.number i1 (hw.app _) (by omega)) rfl ?_;rintro _ G1 ⟨rfl,o1,w1,f1,_⟩;have d1:=f1.keep (j:=H.length) (x:= .vars [.i x.number,.list (x.readers.map avRdr),.list (x.operators.map avOpr)]) (by simp) (Wg hw).1 (Wg hw).2;have m1:=f1.own (j:=H.length) (by simp) (Wg hw).2;simp;repeat(refine s_ ?_;simp[d1])
 refine Qd rfl rfl (Js x.readers l1 _ [.vptr q 0] [] Ub Sc G1 q o1 _ e w1 (by rw[zL];omega) (λb z1 H' o' out' e' a fr c=>Nf b (i2 b z1) H' q o' out' e' a c)) rfl ?_;rintro _ G2 ⟨rfl,t2,o2,w2,f2,k2,e2⟩;have d2:=f2.keep d1 (Wg hw).1 m1;simp;repeat(refine s_ ?_;simp[d2])
 rw[zL]at k2;refine Qd rfl rfl (Dk x.operators l2 _ [.vptr q 0] [] Ue Pf G2 q o2 _ _ w2 (by omega) (λb z1 H' o' out' e' a fr c=>Z4 b (i3 b z1) H' q o' out' e' a c)) rfl ?_;rintro _ G3 ⟨rfl,h⟩;simp;repeat(refine s_ ?_;simp)
 rw[show W2 x=Wm x.number++(Rh Ub x.readers++Rh Ue x.operators) from rfl,show U2 x=orE (Rz Sc x.readers) (Rz Pf x.operators) from rfl];exact WP.cut (WI.trans f1 (WP.trans f2 (by rw[zL];omega) e2 ⟨rfl,h⟩))
section
def v0j(k:IntKind)(j:Nat)(hj:j<=k.bits)(hk:∀n:Int,0<=n->n<2 ^ j->k.wrap n=n)(a b:Nat)(ha:a<2 ^ j)(hb:b<2 ^ j):bits .xor k a b=((a ^^^ b:Nat):Int):=by have hp:2 ^ j<=2 ^ k.bits:=w_ (by decide) hj;have z1:a % 2 ^ k.bits=a:=wn (yZ ha hp);have z8:b % 2 ^ k.bits=b:=wn (yZ hb hp);simp only[bits,BitVec.ofInt_natCast,BitVec.toNat_xor,BitVec.toNat_ofNat,z1,z8];have h:(a ^^^ b)<2 ^ j:=Nat.xor_lt_two_pow ha hb;exact hk _ (by omega) (by exact_mod_cast h)
def Zk(u:Nat)(h:u<4294967296):IntKind.u32.wrap (u:Int)=u:=by simp[IntKind.wrap,IntKind.bits,IntKind.signed];omega
def k1v(h:Nat)(c:UInt8)(hh:h<4294967296):IntKind.u32.wrap (bits .xor .u32 h (IntKind.u32.wrap c.toNat) * 16777619)=(Fg h c:Int):=by have hc:=c.toNat_lt;rw[Zk _ (by omega),v0j .u32 32 (by decide) (λn n0 n1=>by simp[IntKind.wrap,IntKind.bits,IntKind.signed];omega) _ _ hh (by omega),Fg];simp[IntKind.wrap,IntKind.bits,IntKind.signed]
def c09(s:List UInt8)(j:Nat)(h:j<s.length):Yg (s.take (j+1))=Fg (Yg (s.take j)) s[j]:=by rw[yI h,Yg,List.foldl_append,List.foldl_cons,vk,Yg]
def w17:Yg []=2166136261:=by rw[Yg,vk]
attribute [local irreducible] Fg Yg
def Fw(s:List UInt8)(hs:s.length<=1000000000):PC prog 121 [.str s] (λr=>r= .i (Yg s)):=by
 refine pcB func121 results121 ntmps121 ?_;simp only[Qf];repeat(refine s_ ?_;simp)
 refine Ib s.length (λj=>[(0,.str s),(3,.int .u32 (Yg (s.take j))),(6,.i s.length),(7,.i j)]) (λ_=>[]) rfl (by simp) (by simp[w17]) (by simp) (by simp) ?_;intro j hj ih;have z1:=Jr (s.take j);repeat(refine s_ ?_;simp)
 refine Qb rfl (λh=>?_) (λh=>?_)
 ·have z8:j<s.length:=by simpa using h
  have hw1:=wz j (by omega);repeat(refine s_ ?_;simp[z8,k1v _ _ z1,hw1])
  refine Q8 [] (ih z8) rfl (by simp) ?_ (by simp) (by simp);simp[c09 s j z8]
 have za:j=s.length:=by simp at h;omega
 subst za;rw[yV]at *
 have:=Jr s;have hw:IntKind.i64.wrap (Yg s:Int)=Yg s:=wrap_i64 _ (by omega) (by omega);repeat(refine s_ ?_;simp[hw])
end
section
attribute [local irreducible] Fg Yg W2 U2
@[simp] theorem range4:([0,1,2,3]=xV 4)=True:=by decide
def shB(c k j:Nat)(hk:(2:Int) ^ min k IntKind.i64.bits=(j:Int))(hj:0<j):(.int .u8 (IntKind.u8.wrap ((c:Int).fdiv (2 ^ min k IntKind.i64.bits))):AV)=byteAV (UInt8.ofNat (c / j)):=by rw[hk,w9 _ (by omega),<-Int.natCast_ediv];simp[byteAV,IntKind.wrap,IntKind.bits,IntKind.signed]
def j1a(c:Nat):(.int .u8 (IntKind.u8.wrap (c:Int)):AV)=byteAV (UInt8.ofNat c):=by simp[byteAV,IntKind.wrap,IntKind.bits,IntKind.signed]
def k17(c:Nat):([.int .u8 (IntKind.u8.wrap ((c:Int).fdiv (2 ^ min 24 IntKind.i64.bits))),.int .u8 (IntKind.u8.wrap ((c:Int).fdiv (2 ^ min 16 IntKind.i64.bits))),.int .u8 (IntKind.u8.wrap ((c:Int).fdiv (2 ^ min 8 IntKind.i64.bits))),.int .u8 (IntKind.u8.wrap (c:Int))]:List AV)=(Cl c).map byteAV:=by rw[shB c 24 16777216 (by decide) (by decide),shB c 16 65536 (by decide) (by decide),shB c 8 256 (by decide) (by decide),j1a];rfl
attribute [local irreducible] Cl
def Cn(x:Snp):List AV:=[.i x.number,.list (x.readers.map avRdr),.list (x.operators.map avOpr)]
def Mc(x:Snp)(hi:g0i x)(H:List AObj)(q:Nat)(o:Option Nat)(out:List UInt8)(e:Int)(c:Nat)(hw:WA H q out e o)(hc:H[c]?=some (.vars (Cn x)))(hb:out.length+(W2 x).length<=1000000000):
  FC prog 99 [.vptr q 0,.vptr c 0] H (WP H q o out e (W2 x) (U2 x)):=by
 refine fcB func99 results99 ntmps99 ?_;simp only[Qf];rw[Cn]at hc;repeat(refine s_ ?_;simp[hc])
 refine Qd rfl rfl (Lh x hi H q o out e hw hb) rfl ?_;rintro _ G ⟨rfl,h⟩;simp;repeat(refine s_ ?_;simp)
 exact⟨rfl,h⟩
def y0r(x:Snp)(hi:g0i x)(hb:(W2 x).length<=900000000):
  FC prog 98 [.fn (.func 99) [] [.vptr 0 0]] [.vars (Cn x)] (λr _=>r= .tup [.str (Qt x).1,.i (Qt x).2]):=by
 refine fcB func98 results98 ntmps98 ?_;simp only[Qf];obtain⟨R,hR⟩:∃R,Qt x=R:=⟨_,rfl⟩
 rw[hR];rw[Qt]at hR;repeat(refine s_ ?_;simp)
 refine Qd rfl rfl (Mc x hi [.vars (Cn x),.vars [.nils,.i 0]] 1 none [] 0 0 ⟨by unfold wX;rw[Ad];rfl,rfl⟩ rfl (by simp;omega)) rfl ?_;rintro _ G ⟨rfl,out,o,w1,f1,l1,e1⟩;rw[y0c]at w1 e1;simp at l1;simp;by_cases hz:U2 x=0
 ·have z1:out=W2 x:=by simpa using e1 hz
  rw[if_neg (by simpa using hz)]at hR;rw[hz]at w1;subst z1;cases o with
  |none=> 
   have h:=w1.2;have h2:0<(W2 x).length:=by unfold W2;rw[zL];have:=V8 x.number;omega
   rw[h]at h2;simp at h2
  |some p=>
   have g0:=w1.1;rw[wX,R1]at g0;have g6:=w1.2.1;repeat(refine s_ ?_;simp[g0])
   refine Qb rfl (λh=>?_) (λh=>?_)
   ·rw[if_pos (by simp at h;omega)]at hR;repeat(refine s_ ?_;simp[g0])
    refine Qd rfl rfl (Ru G 1 _ _ _ 13 w1) rfl ?_;rintro _ _ ⟨rfl,rfl⟩;have w2:=(w1.err (orE 0 13)).1;rw[y0c]at w2 |-;generalize G.set 1 (wX (W2 x).length 13 (some p))=G2 at *;rw[wX]at w2
    simp;repeat(refine s_ ?_;simp[w2])
    refine Qb rfl (λ_=>?_) (λh=>by cases h);repeat(refine s_ ?_;simp)
    refine Qw tOk mixed [] (.val 0 (.val 1 (.val 2 (.val 3 (.val 4 (.val 5 (.done))))))) rfl (by kernel_rfl) ?_;simp[w2];repeat(refine s_ ?_;simp)
    rw[<-hR];exact⟨rfl,rfl⟩
   rw[if_neg (by simp at h;omega)]at hR;repeat(refine s_ ?_;simp[g0])
   refine Qh rfl ?_;repeat(refine s_ ?_;simp[g0])
   refine Dy tOk rfl rfl T22 rfl T5 rfl T9 rfl rfl (s:=W2 x) (by simp[g6];rw[zY (by simp)]) rfl ?_;simp;refine pcL (Fw (W2 x) (by omega)) ?_;simp;repeat(refine s_ ?_;simp[g0])
   rw[k17];obtain⟨a,b,c,d,z8⟩:∃a b c d,Cl (Yg (W2 x))=[a,b,c,d]:=⟨_,_,_,_,by unfold Cl;rfl⟩
   rw[z8];have b6:∀A:AObj,(G++[A])[p]?=some (AObj.arr 5 1 (wO byteAV (W2 x))):=λA=>Qc g6 _;have b7:∀A B:AObj,((G++[A]).set p .dead++[B])[G.length+1]?=some B:=λA B=>by have:=w8 (l:=(G++[A]).set p .dead) (a:=B);simpa using this
   refine apS T22 T5 ?_;simp[b6];refine⟨by simp[Em,b6]<;>omega,?_⟩;refine Dy tOk rfl rfl T22 rfl T5 rfl T9 rfl rfl (s:=W2 x++[a,b,c,d]) (by simp[b7];rw[zY (by simp)]) rfl ?_;simp;repeat(refine s_ ?_;simp)
   rw[<-hR,Fh,z8];exact⟨rfl,rfl⟩
 rw[if_pos hz]at hR;cases o with
 |none=>
  have g0:=w1.1;rw[wX,Ad]at g0;repeat(refine s_ ?_;simp[g0])
  refine Qb rfl (λh=>by cases h) (λh=>?_);repeat(refine s_ ?_;simp[g0])
  refine Qb rfl (λh=>?_) (λh=>by simp[hz]at h);repeat(refine s_ ?_;simp)
  refine Qw tOk mixed [] (.val 0 (.val 1 (.val 2 (.val 3 (.val 4 (.val 5 (.done))))))) rfl (by kernel_rfl) ?_;simp[g0];repeat(refine s_ ?_;simp)
  rw[<-hR];exact⟨rfl,rfl⟩
 |some p=>
  have g0:=w1.1;rw[wX,R1]at g0;have g6:=w1.2.1;repeat(refine s_ ?_;simp[g0])
  refine Qb rfl (λh=>?_) (λh=>?_)
  ·repeat(refine s_ ?_;simp[g0])
   refine Qd rfl rfl (Ru G 1 _ _ _ 13 w1) rfl ?_;rintro _ _ ⟨rfl,rfl⟩;have w2:=(w1.err (orE (U2 x) 13)).1;rw[U0 hz]at w2 |-;generalize G.set 1 (wX out.length (U2 x) (some p))=G2 at *;rw[wX]at w2
   simp;repeat(refine s_ ?_;simp[w2])
   refine Qb rfl (λh=>?_) (λh=>by simp[hz]at h);repeat(refine s_ ?_;simp)
   refine Qw tOk mixed [] (.val 0 (.val 1 (.val 2 (.val 3 (.val 4 (.val 5 (.done))))))) rfl (by kernel_rfl) ?_;simp[w2];repeat(refine s_ ?_;simp)
   rw[<-hR];exact⟨rfl,rfl⟩
  repeat(refine s_ ?_;simp[g0])
  refine Qb rfl (λh=>?_) (λh=>by simp[hz]at h);repeat(refine s_ ?_;simp)
  refine Qw tOk mixed [] (.val 0 (.val 1 (.val 2 (.val 3 (.val 4 (.val 5 (.done))))))) rfl (by kernel_rfl) ?_;simp[g0];repeat(refine s_ ?_;simp)
  rw[<-hR];exact⟨rfl,rfl⟩
def w0e(x:Snp)(hi:g0i x)(hb:(W2 x).length<=900000000):PC prog 65 [avSnp x] (λr=>r= .tup [.str (Qt x).1,.i (Qt x).2]):=by
 refine pcB func65 results65 ntmps65 ?_;simp only[Qf];repeat(refine s_ ?_;simp)
 refine Qd rfl rfl (y0r x hi hb) rfl ?_;rintro _ G rfl;simp;repeat(refine s_ ?_;simp)
end
section
attribute [simp] k1d k1o
def wrS(s:Snp)(d:Disk):Disk×Int:=if W1 s.number≠0 then(d,W1 s.number)else if(Qt s).2≠0 then(d,(Qt s).2)else Wl d (Wx s.number) (wrG (Qt s).1)
def u0z{n:Int}(h:W1 n=0): -9223372036854775808<=n/\n<=9223372036854775807:=by have:=(Tk n).1 h;omega
attribute [local irreducible] Qt Wl Wc Tj Rg W1
def N9(s:Snp)(hj:g0i s)(hb:(W2 s).length<=900000000)(d:Disk):PC prog 63 [encD d,.iptr (Cn s)] (λr=>r= .tup [encD (wrS s d).1,.i (wrS s d).2]):=by
 refine pcB func63 results63 ntmps63 ?_;simp only[Qf];simp only[encD,Cn];obtain⟨R,hR⟩:∃R,wrS s d=R:=⟨_,rfl⟩
 rw[hR];rw[wrS]at hR;repeat(refine s_ ?_;simp)
 refine pcL (Jm s.number) ?_;simp;repeat(refine s_ ?_;simp)
 by_cases hv:W1 s.number=0
 ·rw[if_neg (λh=>h hv)]at hR;refine Qb rfl (λh=>by simp[hv]at h) (λh=>?_);repeat(refine s_ ?_;simp)
  refine pcL (w0e s hj hb) ?_;simp;repeat(refine s_ ?_;simp)
  by_cases he:(Qt s).2=0
  ·rw[if_neg (λh=>h he)]at hR;refine Qb rfl (λh=>by simp[he]at h) (λh=>?_);obtain⟨i1,i2⟩:=u0z hv;have hl:=Lib.itoa_length_le s.number (by omega) (by omega);have z1:8+(Lib.itoa s.number).length<=9223372036854775807:=by omega
   repeat(refine s_ ?_;simp)
   refine Qw tOk mixed [9] (.val 0 (.val 1 (.val 2 (.val 5 (.one 3 (.val 4 (.one 6 (.val 7 (.val 8 (.one 9 (.val 10 (.done)))))))))))) rfl (by kernel_rfl) ?_;simp;refine pcL (Av s.number i1 i2) ?_;simp[z1];refine pcL (u1t d (Wx s.number) (Qt s).1) ?_;simp;repeat(refine s_ ?_;simp)
   rw[<-hR];exact⟨⟨rfl,rfl⟩,rfl⟩
  rw[if_pos he]at hR;refine Qb rfl (λh=>?_) (λh=>by simp[he]at h);repeat(refine s_ ?_;simp)
  rw[<-hR];exact⟨⟨rfl,rfl⟩,rfl⟩
 rw[if_pos hv]at hR;refine Qb rfl (λh=>?_) (λh=>by simp[hv]at h);repeat(refine s_ ?_;simp)
 rw[<-hR];exact⟨⟨rfl,rfl⟩,rfl⟩
def x0h(s:Snp):PC prog 40 [avSnp s] (λr=>r= .fn (.func 63) [] [.iptr (Cn s)]):=by
 refine pcB func40 results40 ntmps40 ?_;simp only[Qf];repeat(refine s_ ?_;simp)
 rfl
def C7(n:Int)(d:Disk):PC prog 68 [encD d,.iptr [.i n]] (λr=>r= .tup [encD d,.i (W1 n)]):=by
 refine pcB func68 results68 ntmps68 ?_;simp only[Qf];simp only[encD];repeat(refine s_ ?_;simp)
 refine Qw tOk mixed [3] (.val 0 (.val 1 (.one 2 (.one 3 (.val 4 (.done)))))) rfl (by kernel_rfl) ?_;simp;refine pcL (Jm n) ?_;simp;repeat(refine s_ ?_;simp)
def C9(w:List UInt8)(d:Disk):PC prog 69 [encD d,.iptr [.str w]] (λr=>r= .tup [encD (Tj d w).1,.i (Tj d w).2]):=by
 refine pcB func69 results69 ntmps69 ?_;simp only[Qf];simp only[encD];repeat(refine s_ ?_;simp)
 refine pcL (u1n d w) ?_;simp;repeat(refine s_ ?_;simp)
def Cv(w:List UInt8)(n:Int)(h0: -9223372036854775808<=n)(h1:n<=9223372036854775807)(d:Disk):PC prog 71 [encD d,.iptr [.str w],.iptr [.i n]] (λr=>r= .tup [encD (Rg d w (Rb n)).1,.i (Rg d w (Rb n)).2]):=by
 refine pcB func71 results71 ntmps71 ?_;simp only[Qf];simp only[encD];have hl:=Lib.itoa_length_le n (by omega) (by omega);have z1:11+(Lib.itoa n).length<=9223372036854775807:=by omega
 repeat(refine s_ ?_;simp)
 refine Qw tOk mixed [8] (.val 0 (.val 1 (.val 2 (.one 3 (.val 4 (.one 5 (.val 6 (.val 7 (.one 8 (.val 9 (.done))))))))))) rfl (by kernel_rfl) ?_;simp;refine pcL (Av n h0 h1) ?_;simp[z1];refine pcL (u1w d w (Rb n)) ?_;simp;repeat(refine s_ ?_;simp)
abbrev Stp:=FuncId×List AV×(Disk->Disk×Int)
def q07(p:Stp):AV:= .fn (.func p.1) [] p.2.1
def q04(n:Int):List Stp:=[(68,[.iptr [.i n]],λd=>(d,W1 n)),(69,[.iptr [.str (Wx n)]],λd=>Tj d (Wx n)),(71,[.iptr [.str (Wx n)],.iptr [.i n]],λd=>Rg d (Wx n) (Rb n))]
def wrs(s:Snp):Stp:=(63,[.iptr (Cn s)],wrS s)
def M7(n:Int)(h0: -9223372036854775808<=n)(h1:n<=9223372036854775807):PC prog 41 [.i n] (λr=>r= .list ((q04 n).map q07)):=by
 refine pcB func41 results41 ntmps41 ?_;simp only[Qf];have hl:=Lib.itoa_length_le n (by omega) (by omega);have z1:8+(Lib.itoa n).length<=9223372036854775807:=by omega
 repeat(refine s_ ?_;simp)
 refine pcL (Av n h0 h1) ?_;simp[z1];refine Ur 0 (ys:=[.i n]) (by simp) rfl ?_;simp;refine Ur 1 (ys:=[.str (Wx n)]) (by simp[Wx,x1y]) rfl ?_;simp;repeat(refine s_ ?_;simp)
 simp[q04,q07]
def g0r:List Stp->Disk->Disk×Int
 |[],d=>(d,0)
 |p::l,d=>if(p.2.2 d).2≠0 then(W7,(p.2.2 d).2)else g0r l (p.2.2 d).1
def Ts(l:List Stp)(d:Disk):Disk×Int:=if Wc d≠0 then(W7,Wc d)else g0r l d
def k0f(l:List Stp)(hl:l.length<=1000)(z8:∀p∈l,p.2.1.all AV.pure=true/\∀d,PC prog p.1 (([encD d]++p.2.1).map AV.nrm) (λr=>r= .tup [encD (p.2.2 d).1,.i (p.2.2 d).2]))(d:Disk):
  PC prog 39 [encD d,.list (l.map q07)] (λr=>r= .tup [encD (Ts l d).1,.i (Ts l d).2]):=by
 refine pcB func39 results39 ntmps39 ?_;simp only[Qf];simp only[encD];obtain⟨R,hR⟩:∃R,Ts l d=R:=⟨_,rfl⟩
 rw[hR];rw[Ts]at hR;repeat(refine s_ ?_;simp)
 refine pcL (y0v d) ?_;simp;repeat(refine s_ ?_;simp)
 by_cases hc:Wc d=0
 ·rw[if_neg (λh=>h hc)]at hR;refine Qb rfl (λh=>by simp[hc]at h) (λh=>?_);repeat(refine s_ ?_;simp)
  refine Qk (Qg (sl':=[(1,.list (l.map q07)),(2,.vptr 0 0),(4,.vptr 1 0),(17,.list (l.map q07)),(18,.i l.length),(19,.i 0)]) ?_ (by simp));refine Qp (P:=prog) (F:=λ(u:Nat×Disk)=>⟨[(1,.list (l.map q07)),(2,.vptr 0 0),(4,.vptr 1 0),(17,.list (l.map q07)),(18,.i l.length),(19,.i u.1)],[.vars [.list (u.2.files.map encFl),.i u.2.space],.vars [.nils,.i 0]]⟩)
   (λu=>u.1<=l.length/\g0r (l.drop u.1) u.2=R) (λu=>l.length - u.1) ?_ (0,d) ⟨yO _,hR⟩
  rintro⟨j,dj⟩ ⟨g1,g2⟩ ih;simp only at g1 g2 ih |-;repeat(refine s_ ?_;simp)
  refine Qb rfl (λh=>?_) (λh=>?_)
  ·have z1:j<l.length:=by simpa using h
   have hw1:=wz j (by omega);rw[yU z1,g0r]at g2;have hp:=z8 l[j] (yB z1);repeat(refine s_ ?_;simp[z1])
   generalize l[j]=p at *;refine Ui rfl rfl (by simp[hp.1]) (hp.2 dj) rfl ?_
   rintro _ rfl;generalize p.2.2 dj=dn at *
   obtain⟨d2,e2⟩:=dn;simp only at g2;simp;repeat(refine s_ ?_;simp)
   by_cases he:e2=0
   ·rw[if_neg (λh=>h he)]at g2;refine Qb rfl (λh=>by simp[he]at h) (λh=>?_);repeat(refine s_ ?_;simp[hw1])
    refine Q8 _ (ih (j+1,d2) ⟨z1,g2⟩ (by simp only;omega)) rfl (by simp) ?_ (by simp) (by simp);simp
   rw[if_pos he]at g2;refine Qb rfl (λh=>?_) (λh=>by simp[he]at h);repeat(refine s_ ?_;simp)
   rw[<-g2];simp[W7]
  have za:j=l.length:=by simp at h;omega
  subst za;rw[List.drop_length,g0r]at g2;repeat(refine s_ ?_;simp)
  rw[<-g2];exact⟨⟨rfl,rfl⟩,rfl⟩
 rw[if_pos hc]at hR;refine Qb rfl (λh=>?_) (λh=>by simp[hc]at h);repeat(refine s_ ?_;simp)
 rw[<-hR];simp[W7]
end
section
attribute [local irreducible] Ts
def f0w(s:Snp)(hj:g0i s)(hb:(W2 s).length<=900000000):(wrs s).2.1.all AV.pure=true/\∀d,PC prog (wrs s).1 (([encD d]++(wrs s).2.1).map AV.nrm) (λr=>r= .tup [encD ((wrs s).2.2 d).1,.i ((wrs s).2.2 d).2]):=
 ⟨by simp[wrs],λd=>by have:=N9 s hj hb d;simpa[wrs]using this⟩
def k0q(n:Int)(h0: -9223372036854775808<=n)(h1:n<=9223372036854775807):∀p∈q04 n,p.2.1.all AV.pure=true/\∀d,PC prog p.1 (([encD d]++p.2.1).map AV.nrm) (λr=>r= .tup [encD (p.2.2 d).1,.i (p.2.2 d).2]):=by
 intro p hp;simp only[q04,y_,uk,or_false]at hp;rcases hp with rfl|rfl|rfl
 ·exact⟨by simp,λd=>by have:=C7 n d;simpa using this⟩
 ·exact⟨by simp,λd=>by have:=C9 (Wx n) d;simpa using this⟩
 exact⟨by simp,λd=>by have:=Cv (Wx n) n h0 h1 d;simpa using this⟩
def Yx(d:Disk)(s:Snp):Disk×Int:=Ts [wrs s] d
def U5(d:Disk)(n:Int):Disk×Int:=Ts (q04 n) d
def Ar(d:Disk)(s:Snp):Disk×Int:=Ts (wrs s::q04 s.number) d
def Bk(d:Disk)(s:Snp)(hj:g0i s)(hb:(W2 s).length<=900000000)(hn:i64 s.number):PC prog 18 [encD d,avSnp s] (λr=>r= .tup [encD (Ar d s).1,.i (Ar d s).2]):=by
 refine pcB func18 results18 ntmps18 ?_;simp only[Qf];simp only[encD];rw[Ar];repeat(refine s_ ?_;simp)
 refine Wh tOk mixed [7,11] (.val 1 (.val 4 (.val 5 (.two 0 (.one 2 (.two 3 (.one 6 (.one 7 (.one 8 (.val 9 (.val 10 (.one 11 (.val 12 (.done)))))))) 6 (.one 3 (.one 7 (.one 8 (.val 9 (.val 10 (.one 11 (.val 12 (.done)))))))))) 2 (.three 0 (.two 3 (.one 6 (.one 7 (.one 8 (.val 9 (.val 10 (.one 11 (.val 12 (.done)))))))) 6 (.one 3 (.one 7 (.one 8 (.val 9 (.val 10 (.one 11 (.val 12 (.done))))))))) 3 (.two 0 (.one 6 (.one 7 (.one 8 (.val 9 (.val 10 (.one 11 (.val 12 (.done)))))))) 6 (.two 0 (.one 7 (.one 8 (.val 9 (.val 10 (.one 11 (.val 12 (.done))))))) 7 (.val 0 (.one 8 (.val 9 (.val 10 (.one 11 (.val 12 (.done))))))))) 6 (.two 0 (.one 3 (.one 7 (.one 8 (.val 9 (.val 10 (.one 11 (.val 12 (.done)))))))) 3 (.two 0 (.one 7 (.one 8 (.val 9 (.val 10 (.one 11 (.val 12 (.done))))))) 7 (.val 0 (.one 8 (.val 9 (.val 10 (.one 11 (.val 12 (.done)))))))))))))) rfl (by kernel_rfl) ?_;simp;have za:(q04 s.number).length=3:=rfl;have z1:∀y∈(q04 s.number).map q07,y.cells.length=1/\y.cells.all AV.leaf=true:=by intro y hy;simp only[q04,List.map_cons,List.map_nil,y_,uk,or_false]at hy;rcases hy with rfl|rfl|rfl<;>exact⟨rfl,rfl⟩
 obtain⟨L,hL⟩:∃L,L=q04 s.number:=⟨_,rfl⟩
 rw[<-hL]at za z1;have z8:=M7 s.number hn.1 hn.2;have ze:=k0q s.number hn.1 hn.2;rw[<-hL]at z8 ze |-;have zf:(L.map q07).length=3:=by simp[za]
 have zb:1+L.length<=L.length+1:=by omega
 have zg:∀x:AV,List.take (1+L.length) (x::L.map q07)=x::L.map q07:=λx=>zY (by simp;omega);have zc:∀p∈wrs s::L,p.2.1.all AV.pure=true/\∀d,PC prog p.1 (([encD d]++p.2.1).map AV.nrm) (λr=>r= .tup [encD (p.2.2 d).1,.i (p.2.2 d).2]):=λp hp=>by
  rcases y_.1 hp with rfl|hp
  ·exact f0w s hj hb
  exact ze p hp
 have zd:PC prog 39 [encD d,.list (.fn (.func 63) [] [.iptr (Cn s)]::L.map q07)] (λr=>r= .tup [encD (Ts (wrs s::L) d).1,.i (Ts (wrs s::L) d).2]):=k0f (wrs s::L) (by simp[za]) zc d
 repeat' first
  |refine⟨?_,?_⟩
  |(refine pcL (x0h s) ?_;simp)
  |(refine pcL z8 ?_;simp)
  |(refine Gt tOk rfl (λh=>by cases h) rfl ?_;simp)
 all_goals (refine apS k1o k1d ?_)
 all_goals simp
 all_goals refine⟨⟨z1,by simp[za]⟩,?_⟩
 all_goals try simp
 all_goals repeat' first
  |refine⟨?_,?_⟩
  |(refine pcL z8 ?_;simp)
  |(refine Gt tOk rfl (λh=>by cases h) rfl ?_;simp)
 all_goals refine Z0 4 rfl ?_
 all_goals simp[zg,zb]
 all_goals refine Ui rfl rfl (by simp) zd rfl ?_
 all_goals rintro _ rfl
 all_goals simp
 all_goals (refine Ci ?_;simp)
end
def dX(d:Dc):AObj:= .vars [.str d.s,.i d.e]
def DP(H:List AObj)(q:Nat)(res:AV)(d':Dc)(r:AV)(H':List AObj):Prop:=r=res/\H'[q]?=some (dX d')/\Fr H H' q none none
def Fr.app(H G:List AObj)(q:Nat):Fr H (H++G) q none none:=⟨by simp,.inl rfl,λj hj _ _=>zK hj⟩
def Fr.kd{H H':List AObj}{q j:Nat}{x:AObj}(a:Fr H H' q none none)(h:H[j]?=some x)(h1:j≠q):H'[j]?=some x:=a.keep h h1 (by simp)
def Ww(H:List AObj)(q:Nat)(d:Dc)(x:Int)(hd:H[q]?=some (dX d)):FC prog 157 [.vptr q 0,.i x] H (λr H'=>r= .tup []/\H'=H.set q (dX (d.fail x))):=by
 refine fcB func157 results157 ntmps157 ?_;simp only[Qf];rw[dX]at hd;repeat(refine s_ ?_;simp[hd])
 unfold Dc.fail;refine Qb rfl (λh=>?_) (λh=>?_)
 ·have h':d.e=0:=by simpa using h
  rw[if_pos h'];repeat(refine s_ ?_;simp[hd])
  rfl
 have h':d.e≠0:=by simpa using h
 rw[if_neg h'];repeat(refine s_ ?_;simp)
 exact(Z1 hd).symm
def k18(i:Nat):(2:Nat) ^ (7 * (i+1))=2 ^ (7 * i) * 128:=by rw[show 7 * (i+1)=7 * i+7 by omega,uA]
def x00{i:Nat}(hi:i<=9):(2:Nat) ^ (7 * i)<=9223372036854775808:=by have:(2:Nat) ^ (7 * i)<=2 ^ 63:=w_ (by decide) (by omega);simpa using this
def j05{i:Nat}(hi:i<=8):(2:Nat) ^ (7 * i)<=72057594037927936:=by have:(2:Nat) ^ (7 * i)<=2 ^ 56:=w_ (by decide) (by omega);simpa using this
def B1{i c:Nat}(hi:i<=9)(hc:c<128)(h9:i=9->c<=1):c * 2 ^ (7 * i)<=9223372036854775808:=by
 by_cases h:i=9
 ·subst h;have:=h9 rfl;have:c * 2 ^ (7 * 9)<=1 * 2 ^ (7 * 9):=zZ _ this;simpa using this
 have h8:=j05 (i:=i) (by omega);have:c * 2 ^ (7 * i)<=127 * 72057594037927936:=Nat.mul_le_mul (by omega) h8;omega
def orv(i u c:Nat)(hi:i<=9)(hu:u<2 ^ (7 * i))(hc:c<128)(h9:i=9->c<=1):
  bits .or .u64 u (IntKind.u64.wrap ((c:Int) * 2 ^ min (7 * i) IntKind.u64.bits))=((u+c * 2 ^ (7 * i):Nat):Int):=by
 have hp:=x00 hi;have hm:min (7 * i) IntKind.u64.bits=7 * i:=by simp[IntKind.bits];omega
 have hq:=B1 hi hc h9;have hw:IntKind.u64.wrap ((c:Int) * 2 ^ min (7 * i) IntKind.u64.bits)=((c * 2 ^ (7 * i):Nat):Int):=by
  rw[hm];have e:(c:Int) * 2 ^ (7 * i)=((c * 2 ^ (7 * i):Nat):Int):=by simp
  rw[e];generalize c * 2 ^ (7 * i)=y at *
  simp[IntKind.wrap,IntKind.bits,IntKind.signed];omega
 rw[hw,bits_join_low .u64 64 (by decide) (λn h0 h1=>by simp[IntKind.wrap,IntKind.bits,IntKind.signed];omega) (7 * i) u _ (by omega) (by exact_mod_cast hu) (by omega) (by omega) (by
  have:((c * 2 ^ (7 * i):Nat):Int) % ((2 ^ (7 * i):Nat):Int)=((c * 2 ^ (7 * i) % 2 ^ (7 * i):Nat):Int):=by simp
  rw[Nat.mul_mod_left]at this;simpa using this) (by omega)]
 simp
def z05(op:BinOp)(h:op= .xor)(k:IntKind)(a b:Int):bits op k a b=bits op k b a:=by subst h;simp only[bits,BitVec.xor_comm]
def j0d(u:Nat)(hu:u<18446744073709551616):bits .xor .i64 (IntKind.i64.wrap ((u:Int).fdiv (2 ^ min 1 IntKind.u64.bits))) (IntKind.i64.wrap (-IntKind.i64.wrap (bits .and .u64 u 1)))=zag u:=by
 have e1:(2:Int) ^ min 1 IntKind.u64.bits=2:=by decide
 rw[Lib.u64_and1 _ (by omega) (by omega),e1,w9 _ (by omega),show(u:Int) / 2=((u / 2:Nat):Int) by omega];rw[wrap_i64 ((u / 2:Nat):Int) (by omega) (by omega),wrap_i64 ((u:Int) % 2) (by omega) (by omega),wrap_i64 (-((u:Int) % 2)) (by omega) (by omega),zag];split
 ·rename_i h;rw[show -((u:Int) % 2)=((0:Nat):Int) by omega,v0j .i64 63 (by decide) (λn n0 n1=>wrap_i64 _ (by omega) (by omega)) _ _ (by omega) (by decide),uK]
 rename_i h;rw[show -((u:Int) % 2)= -1 by omega,z05 .xor rfl,Lib.i64_not _ (by omega)]
def Wa(H:List AObj)(q:Nat)(d:Dc)(hd:H[q]?=some (dX d))(hs:d.s.length<=1000000000):FC prog 158 [.vptr q 0] H (DP H q (.i (pI d).1) (pI d).2):=by
 refine fcB func158 results158 ntmps158 ?_;simp only[Qf];obtain⟨R,hR⟩:∃R,pI d=R:=⟨_,rfl⟩
 rw[hR];rw[pI]at hR;have h0:H[q]?=some (.vars [.str d.s,.i d.e]):=hd;repeat(refine s_ ?_;simp[h0])
 refine Qb rfl (λh=>?_) (λh=>?_)
 ·repeat(refine s_ ?_;simp)
  rw[if_pos (by simpa using h)]at hR;rw[<-hR];exact⟨rfl,hd,Fr.refl ..⟩
 rw[if_neg (by simpa using h)]at hR;have he:d.e=0:=by simpa using h
 obtain⟨n,hn⟩:∃n:Nat,n=min d.s.length 10:=⟨_,rfl⟩
 have z8:(if 10<(d.s.length:Int)then 10 else(d.s.length:Int))=n:=by split<;>omega
 repeat(refine s_ ?_;simp[h0,z8])
 refine Qk (Qg (sl':=[(0,.vptr q 0),(2,.i 0),(3,.int .u64 0),(16,.i n),(17,.i 0)]) ?_ (by simp));refine Qp (F:=λ(u:Nat×Nat)=>⟨[(0,.vptr q 0),(2,.i 0),(3,.int .u64 u.2),(16,.i n),(17,.i u.1)],H⟩)
  (λu=>u.1<=n/\u.2<2 ^ (7 * u.1)/\(Mh (10 - u.1) u.1 u.2 (d.s.drop u.1)).map (λp=>(zag p.1,p.2))=q1g d.s) (λu=>n - u.1) ?_ (0,0) ⟨yO _,by simp,by simp[q1g]⟩
 rintro⟨j,u⟩ ⟨g1,g2,g3⟩ ih;simp only at g1 g2 g3 ih |-;repeat(refine s_ ?_;simp)
 refine Qb rfl (λh=>?_) (λh=>?_)
 ·have zb:j<n:=by simpa using h
  have hj:j<d.s.length:=by omega
  have hw1:=wz j (by omega);have zc:IntKind.i64.wrap (7 * (j:Int))=((7 * j:Nat):Int):=by rw[wrap_i64 _ (by omega) (by omega)];omega
  obtain⟨k,hk⟩:∃k,10 - j=k+1:=⟨9 - j,by omega⟩
  rw[hk,yU hj]at g3;obtain⟨c,hc⟩:∃c,d.s[j]=c:=⟨_,rfl⟩
  rw[hc,Mh]at g3;have ze:=c.toNat_lt;repeat(refine s_ ?_;simp[h0,hj,hc])
  by_cases hbad:(0<j/\c.toNat=0)\/(j=9/\1<c.toNat)
  ·rw[if_pos hbad]at g3;refine Qb rfl (λh=>?_) (λh=>?_)
   ·repeat(refine s_ ?_;simp)
    refine Qd rfl rfl (Ww H q d 26 hd) rfl ?_;rintro _ _ ⟨rfl,rfl⟩;simp;repeat(refine s_ ?_;simp)
    rw[<-g3]at hR;rw[Dc.fail,if_pos he,<-hR];exact⟨rfl,Qe hd _,Fr.set ..⟩
   exfalso;rw[yF]at h;apply h;simp only[yE,zX,decide_eq_true_eq,beq_iff_eq];omega
  rw[if_neg hbad]at g3;refine Qb rfl (λh=>?_) (λh=>?_)
  ·exfalso;apply hbad;simp only[yE,zX,decide_eq_true_eq,beq_iff_eq]at h;omega
  obtain⟨v,hv⟩:∃v,u+c.toNat % 128 * 2 ^ (7 * j)=v:=⟨_,rfl⟩
  have h9:j=9->c.toNat % 128<=1:=λh=>by omega
  have zd:bits .or .u64 (u:Int) (IntKind.u64.wrap (IntKind.u64.wrap (bits .and .u8 (c.toNat:Int) 127) * 2 ^ min (7 * (j:Int)).toNat IntKind.u64.bits))=(v:Int):=by rw[u8_and127 _ (by omega) (by omega),show(7 * (j:Int)).toNat=7 * j by omega,show(c.toNat:Int) % 128=((c.toNat % 128:Nat):Int) by omega,show IntKind.u64.wrap ((c.toNat % 128:Nat):Int)=((c.toNat % 128:Nat):Int) by simp[IntKind.wrap,IntKind.bits,IntKind.signed];omega,orv j u _ (by omega) g2 (by omega) h9,hv]
  have hvl:v<2 ^ (7 * (j+1)):=by rw[k18,<-hv];have:c.toNat % 128 * 2 ^ (7 * j)<=127 * 2 ^ (7 * j):=zZ _ (by omega);omega
  have za:v<18446744073709551616:=by have h1:=x00 (i:=j) (by omega);have h2:=B1 (i:=j) (c:=c.toNat % 128) (by omega) (by omega) h9;omega
  rw[hv]at g3;repeat(refine s_ ?_;simp[h0,zc,zd])
  refine Qb rfl (λh=>?_) (λh=>?_)
  ·rw[if_pos (by simp at h;omega)]at g3;have j1:(j:Int)+1<=d.s.length:=by omega
   have j2:(0:Int)<=(j:Int)+1:=by omega
   repeat(refine s_ ?_;simp[h0,hw1,j1,j2])
   rw[j0d v za];rw[<-g3]at hR;rw[<-hR,he];exact⟨rfl,Qe hd _,Fr.set ..⟩
  rw[if_neg (by simp at h;omega)]at g3;repeat(refine s_ ?_;simp[hw1])
  exact Qg (ih (j+1,v) ⟨zb,hvl,by rw[show 10 - (j+1)=k by omega];exact g3⟩ (by simp only;omega)) (by simp)
 have zf:j=n:=by simp at h;omega
 repeat(refine s_ ?_;simp)
 have z1:Mh (10 - j) j u (d.s.drop j)=none:=by
  by_cases h10:j=10
  ·subst h10;rfl
  obtain⟨k,hk⟩:∃k,10 - j=k+1:=⟨9 - j,by omega⟩
  rw[hk,List.drop_eq_nil_of_le (by omega)];rfl
 rw[z1]at g3;refine Qd rfl rfl (Ww H q d 26 hd) rfl ?_;rintro _ _ ⟨rfl,rfl⟩;simp;repeat(refine s_ ?_;simp)
 rw[<-g3]at hR;rw[Dc.fail,if_pos he,<-hR];exact⟨rfl,Qe hd _,Fr.set ..⟩
def Shr{α:Type}(F:Dc->α×Dc):Prop:=∀d,(F d).2.s.length<=d.s.length
def V7:∀(k i u:Nat) (s:List UInt8) (v:Nat) (r:List UInt8),Mh k i u s=some (v,r)->r.length<=s.length
 |0,_,_,_,_,_,h=>by simp[Mh]at h
 |k+1,i,u,[],_,_,h=>by simp[Mh]at h
 |k+1,i,u,c::s,v,r,h=>by
  rw[Mh]at h;split at h
  ·cases h
  split at h
  ·cases h;simp
  have:=V7 k _ _ s v r h;simp;omega
def Qz:Shr pI:=λd=>by
 rw[pI];split
 ·exact zR _
 rw[q1g];cases h:Mh 10 0 0 d.s with
 |none=>exact zR _
 |some p=>exact V7 _ _ _ _ p.1 p.2 h
def Shr.bd{α β:Type}{F:Dc->α×Dc}{G:α->Dc->β×Dc}(hF:Shr F)(hG:∀x,Shr (G x)):Shr (bd F G):=λd=>yD (hG _ _) (hF d)
def Shr.rtn{α:Type}(x:α):Shr (rtn x):=λ_=>zR _
def Shr.loop{α:Type}{F:Dc->α×Dc}(h:Shr F):∀n,Shr (E7 F n)
 |0=>λ_=>zR _
 |n+1=>λd=>by
  rw[E7];split
  ·exact zR _
  exact yD (Shr.loop h n _) (h d)
def G8(d:Dc)(x:Int):(d.fail x).s=d.s:=by unfold Dc.fail;split<;>rfl
def Shr.list{α:Type}{F:Dc->α×Dc}(h:Shr F):Shr (pL F):=Qz.bd λn d=>by
 split
 ·have:=Shr.loop h n.toNat (d.fail 5);rwa [G8]at this
 exact Shr.loop h n.toNat d
def Rk{α:Type}(F:Dc->α×Dc)(n:Nat){d:Dc}(h:d.e≠0):E7 F n d=([],d):=by
 cases n with
 |zero=>rfl
 |succ n=>rw[E7,if_pos h]
def Wy{d:Dc}{x:Int}(h:x≠0):(d.fail x).e≠0:=by
 unfold Dc.fail;split
 ·exact h
 assumption
def R4{α:Type}(F:Dc->α×Dc){n j:Nat}{d:Dc}{xs:List α}{R:List α×Dc}(h:R=(xs++(E7 F (n - j) d).1,(E7 F (n - j) d).2))(hj:j=n\/d.e≠0):R=(xs,d):=by
 rw[h];rcases hj with rfl|hj
 ·rw[Nat.sub_self,E7,xY]
 rw[Rk F _ hj,xY]
def E8{α:Type}(F:Dc->α×Dc){n j:Nat}{d:Dc}{xs:List α}{R:List α×Dc}(h:R=(xs++(E7 F (n - j) d).1,(E7 F (n - j) d).2))(hj:j<n)(he:d.e=0):
  R=((xs++[(F d).1])++(E7 F (n - (j+1)) (F d).2).1,(E7 F (n - (j+1)) (F d).2).2):=by
 rw[h];obtain⟨k,hk⟩:∃k,n - j=k+1:=⟨n - j - 1,by omega⟩
 rw[hk,show n - (j+1)=k by omega,E7,if_neg (by simp[he])];simp
def Yd{H G:List AObj}{q p:Nat}(f:Fr H G q none none)(hp:H.length<=p):Fr H (G.set p .dead) q none none:=
 ⟨by simp;exact f.1,.inl rfl,λj hj h1 h2=>by rw[zI (by omega)];exact f.2.2 j hj h1 h2⟩
def Ec{H G:List AObj}{q:Nat}(f:Fr H G q none none)(A:AObj):Fr H (G++[A]) q none none:=f.trans (Fr.app G [A] q)
def Oi{H G:List AObj}{q p:Nat}(f:Fr H G q none none)(hp:H.length<=p)(A B:AObj):Fr H ((G++[A]).set p .dead++[B]) q none none:=Ec (Yd (Ec f A) hp) B
def Ym(G:List AObj)(p:Nat)(A B:AObj):((G++[A]).set p .dead++[B])[G.length+1]?=some B:=by have:=w8 (l:=(G++[A]).set p .dead) (a:=B);simpa using this
end Go.Abs
