/- Part Vh of the proof: steps on the way to the last part. No condition. -/
import Derived.Test.YtjmkolhkojgjpaaGreatDoorVg
import Derived.Test.YtjmkolhkojgjpaaGreatDoorVc
import Derived.Test.YtjmkolhkojgjpaaGreatDoorVd
import Derived.Test.YtjmkolhkojgjpaaGreatDoorVf
import Derived.Test.YtjmkolhkojgjpaaGreatDoorVe
set_option linter.all false
open List renaming range->y_,take_length->yR,getElem?_eq_getElem->zP,take_succ_eq_append_getElem->zY,range_succ->vz,foldl_cons->xX,length_cons->xI,length_take->wC,length_append->yP,mem_of_getElem?->zL,mem_append->yB,mem_singleton->zV,mem_or_eq_of_mem_set->wU,mem_of_mem_take->wd,getD->yV,getElem_mem->zT,getElem?_append_right->zO,getElem?_set_self->zS,getElem?_set_ne->zH,append_assoc->xU,getElem?_append_left->zI,mem_cons->yO,not_mem_nil->uo,map_append->xA,length_map->yL,append_nil->xO,mem_append_left->xB,take_of_length_le->zZ,all_eq_true->yE,mergeSort_perm->vE,mem_map->zU,mem_append_right->vP,getElem?_eq_some_iff->zE
open Prod renaming ext->un
open Int renaming le_refl->xC,eq_ofNat_of_zero_le->uv
set_option linter.unusedSimpArgs false
set_option maxRecDepth 100000
open Go.Proofs.Tryz
namespace Go.Abs
section
open Go Go.Proofs Go.Maps Go.RowKit
def q0g{a:Aut}(h:(P1 a).1=0):OkA a/\∃cl Q,P1 a=(0,cl,Q)/\Jt a cl=some Q/\Cls a cl/\Sub a cl Q/\cl.length<=256/\∀c∈cl,Kp [c]=0/\Wp c=false/\Q8 a (Qk c)/\PWf a.types.toNat c/\∀s∈c,s.length<=256:=by
 have h0:Wd a=0:=by
  by_cases h0:Wd a=0
  ·exact h0
  rw[w0m h0]at h;exact absurd h h0
 have z1:=(Yh a).1 h0;have hm:(Tb a.types (onA a)).1=0:=by
  by_cases hm:(Tb a.types (onA a)).1=0
  ·exact hm
  rw[P1,if_neg (λk=>k h0),if_pos hm]at h;exact absurd h hm
 obtain⟨cl,h1,h2,h3,h4⟩:=M3 z1 hm;refine⟨z1,cl,?_⟩;rcases Hi z1 with h5|⟨Q,h5,h6,h7,h8⟩
 ·rw[h5]at h;simp at h
 have z6:Q9 a.types.toNat (onA a)=cl:=by
  have h9:(P1 a).2.1=cl:=by
   rw[P1,if_neg (λk=>k h0),if_neg (λk=>k hm),h1];split
   ·rename_i hn;rw[P1,if_neg (λk=>k h0),if_neg (λk=>k hm),h1]at h;simp only[hn]at h;simp at h
   rfl
  rw[h5]at h9;exact h9
 rw[z6]at h5 h6 h7 h8;exact⟨Q,h5,h6,h2,h7,h3,h4⟩
def q20(H:List AObj)(id:Nat)(a:Aut)(hid:H[id]?=some (.vars (Ql a)))(s:Int)(h0:0<=s)(h1:s<a.fin.length):FC prog 48 [.i s,.vptr id 0] H (λr H'=>r= .bool (a.fin.getD s.toNat false)/\H'=H):=by
 refine fcB func48 results48 ntmps48 ?_;simp only[Qe];have h2:s.toNat<a.fin.length:=by omega
 repeat(refine s_ ?_;simp[hid,h0,h1,h2])
def stepG(a:Aut)(Q:List (List Int))(n:Nat)(l:List Int)(g:List Mv)(c:Prd):List Mv:=match f0b Q (Q1 a l (Qk c))with|some t=>Yi n g t c|none=>g
def Re(a:Aut)(cl:List Prd)(Q:List (List Int))(n:Nat)(l:List Int)(k:Nat):List Mv:=(cl.take k).foldl (stepG a Q n l) []
def Ga(a:Aut)(cl:List Prd)(Q:List (List Int))(n:Nat):List Mv:=(y_ n).flatMap λn=>Mw a cl Q n (Q.getD n [])
def Hs(a:Aut)(cl:List Prd)(Q:List (List Int))(n:Nat)(l:List Int):Re a cl Q n l cl.length=Mw a cl Q n l:=by rw[Re,yR];rfl
def w0y(a:Aut)(cl:List Prd)(Q:List (List Int))(n:Nat)(l:List Int){k:Nat}{c:Prd}(h:cl[k]?=some c):Re a cl Q n l (k+1)=stepG a Q n l (Re a cl Q n l k) c:=by
 have hk:=Yy h;have hc:cl[k]=c:=by rw[zP hk]at h;exact Option.some.inj h
 rw[Re,zY hk,List.foldl_append,hc];rfl
def V9(a:Aut)(cl:List Prd)(Q:List (List Int))(n:Nat):Ga a cl Q (n+1)=Ga a cl Q n++Mw a cl Q n (Q.getD n []):=by simp[Ga,vz]
def f0d(n:Nat)(g:List Mv)(to:Nat)(c:Prd):(Yi n g to c).length<=g.length+1:=by
 unfold Yi;split
 ·simp
 split<;>simp
def Nj(a:Aut)(Q:List (List Int))(n:Nat)(l:List Int):∀(cl:List Prd) (g:List Mv),(cl.foldl (stepG a Q n l) g).length<=g.length+cl.length
 |[],g=>by simp
 |c::cl,g=>by
  have h1:=Nj a Q n l cl (stepG a Q n l g c);have h2:(stepG a Q n l g c).length<=g.length+1:=by
   unfold stepG;split
   ·exact f0d _ _ _ _
   omega
  rw[xX,xI];omega
def Hf(a:Aut)(cl:List Prd)(Q:List (List Int))(n:Nat)(l:List Int)(hc:cl.length<=256)(k:Nat):(Re a cl Q n l k).length<=256:=by have:=Nj a Q n l (cl.take k) [];rw[wC]at this;rw[Re];simp at this;omega
def f1n(a:Aut)(cl:List Prd)(Q:List (List Int))(hq:Q.length<=256)(hc:cl.length<=256):∀n,n<Q.length->(Ga a cl Q n).length<=n * 256/\(Ga a cl Q n).length<=65536:=by
 have:∀n,(Ga a cl Q n).length<=n * 256:=λn=>by
  induction n with
  |zero=>simp[Ga]
  |succ n ih=>
   have h:=Hf a cl Q n (Q.getD n []) hc cl.length;rw[Hs]at h;have:Ga a cl Q (n+1)=Ga a cl Q n++Mw a cl Q n (Q.getD n []):=by simp[Ga,vz]
   rw[this,yP];omega
 exact λn hn=>⟨this n,by have:=this n;omega⟩
def g0j(a:Aut)(cl:List Prd)(Q:List (List Int))(n:Nat)(l:List Int):Re a cl Q n l 0=[]:=rfl
def k1y{a:Aut}{Q:List (List Int)}(z1:∀l∈Q,l≠[]){n:Nat}{l:List Int}{g:List Mv}{c:Prd}(h:Q1 a l (Qk c)=[]):stepG a Q n l g c=g:=by
 unfold stepG;rw[h];cases hq:f0b Q []with
 |none=>rfl
 |some t=>exact absurd rfl (z1 _ (zL (J5 hq)))
def z14{a:Aut}{Q:List (List Int)}(hn:Q.Nodup){n t:Nat}{l:List Int}{g:List Mv}{c:Prd}(h:Q[t]?=some (Q1 a l (Qk c))):stepG a Q n l g c=Yi n g t c:=by unfold stepG;rw[z1a hn h]
def j1m{T n to:Nat}{g:List Mv}{c:Prd}(hg:∀m∈g,PWf T m.on)(hc:PWf T c):∀m∈Yi n g to c,PWf T m.on:=by
 intro m hm;unfold Yi at hm;split at hm
 ·rcases yB.1 hm with hm|hm
  ·exact hg m hm
  rw[zV.1 hm];exact hc
 split at hm
 ·rename_i m2 z1;rcases wU hm with hm|rfl
  ·exact hg m hm
  exact J8 (hg _ (zL z1)) hc
 exact hg m hm
def g1u{a:Aut}{T:Nat}{Q:List (List Int)}{n:Nat}{l:List Int}{cl:List Prd}(z1:∀c∈cl,PWf T c):∀k,∀m∈Re a cl Q n l k,PWf T m.on:=by
 have:∀(cl:List Prd) (g:List Mv),(∀c∈cl,PWf T c)->(∀m∈g,PWf T m.on)->∀m∈cl.foldl (stepG a Q n l) g,PWf T m.on:=by
  intro cl;induction cl with
  |nil=>intro g _ hg;exact hg
  |cons c cl ih=>
   intro g hc hg;refine ih _ (λx hx=>hc x (by simp[hx])) λm hm=>?_;unfold stepG at hm;split at hm
   ·exact j1m hg (hc c (by simp)) m hm
   exact hg m hm
 exact λk=>this _ _ (λc hc=>z1 c (wd hc)) (λm hm=>by simp at hm)
def AObj.isLp:AObj->Bool
 | .lp .. =>true
 |_=>false
def z2q{T:Nat}{c:Prd}(hw:PWf T c)(hz:∀s∈c,s.length<=256){i:Nat}(hi:i<T):(Qw [c] i).length<=1000000:=by
 have h:i<c.length:=by rw[hw.1];exact hi
 have:Qw [c] i=c[i]:=by simp[Qw,yV,h]
 rw[this];have:=hz _ (zT h);omega
def x2k{T:Nat}{p c:Prd}(hp:PWf T p)(hw:PWf T c)(h1:∀s∈p,s.length<=65536)(hz:∀s∈c,s.length<=256){i:Nat}(hi:i<T):(Qw [p,c] i).length<=1000000:=by
 have h:i<c.length:=by rw[hw.1];exact hi
 have h2:i<p.length:=by rw[hp.1];exact hi
 have:Qw [p,c] i=p[i]++c[i]:=by simp[Qw,yV,h,h2]
 rw[this,yP];have:=hz _ (zT h);have:=h1 _ (zT h2);omega
def u10(a:Aut)(cl:List Prd)(Q:List (List Int)):Ga a cl Q Q.length=(Ux a cl Q).mv:=rfl
def v06(a:Aut)(cl:List Prd)(Q:List (List Int)):(Ux a cl Q).fin=Q.map (Pp a):=rfl
def g0u(a:Aut)(cl:List Prd)(Q:List (List Int)):(Ux a cl Q).types=a.types:=rfl
def v0y(d:Aut):Zw d=if V3 d then(5,Iq)else(0,d):=rfl
def d0l(a:Aut)(cl:List Prd)(Q:List (List Int))(hq:Q.length<=256)(hc:cl.length<=256):(Ga a cl Q Q.length).length<=65536:=by
 have:∀n,(Ga a cl Q n).length<=n * 256:=λn=>by
  induction n with
  |zero=>simp[Ga]
  |succ n ih=>have h:=Hf a cl Q n (Q.getD n []) hc cl.length;rw[Hs]at h;rw[V9,yP];omega
 have:=this Q.length;omega
def d0g{p c:Prd}{A B:Nat}(hp:∀s∈p,s.length<=A)(hc:∀s∈c,s.length<=B):∀s∈R4 p c,s.length<=A+B:=by intro s hs;obtain⟨i,hi,rfl⟩:=List.getElem_of_mem hs;simp only[R4,List.length_zipWith]at hi;simp only[R4,List.getElem_zipWith];refine Nat.le_trans (v09 _) ?_;rw[yP];have h1:=hp _ (zT (by omega:i<p.length));have h2:=hc _ (zT (by omega:i<c.length));omega
def g1q{a:Aut}{Q:List (List Int)}{n:Nat}{l:List Int}{cl:List Prd}(z6:∀c∈cl,∀s∈c,s.length<=256)(z8:cl.length<=256):∀k,∀m∈Re a cl Q n l k,∀s∈m.on,s.length<=65536:=by
 have key:∀(cl:List Prd) (g:List Mv) (B:Nat),(∀c∈cl,∀s∈c,s.length<=256)->(∀m∈g,∀s∈m.on,s.length<=B)->∀m∈cl.foldl (stepG a Q n l) g,∀s∈m.on,s.length<=B+cl.length * 256:=by
  intro cl;induction cl with
  |nil=>intro g B _ hg m hm s hs;have:=hg m hm s hs;simp;omega
  |cons c cl ih=>
   intro g B hc hg m hm s hs;have h1:∀m∈stepG a Q n l g c,∀s∈m.on,s.length<=B+256:=by
    intro m hm s hs;have z1:=hc c (by simp);unfold stepG Yi at hm;split at hm
    ·split at hm
     ·rcases yB.1 hm with hm|hm
      ·have:=hg m hm s hs;omega
      rw[zV.1 hm]at hs;have:=z1 s hs;omega
     split at hm
     ·rename_i m2 z7;rcases wU hm with hm|rfl
      ·have:=hg m hm s hs;omega
      exact d0g (hg _ (zL z7)) z1 s hs
     have:=hg m hm s hs;omega
    have:=hg m hm s hs;omega
   have:=ih (stepG a Q n l g c) (B+256) (λx hx=>hc x (by simp[hx])) h1 m hm s hs;rw[xI];omega
 intro k m hm s hs;have:=key (cl.take k) [] 0 (λc hc=>z6 c (wd hc)) (λm hm=>by simp at hm) m hm s hs;rw[wC]at this;have:min k cl.length<=256:=by omega
 omega
def Np(a:Aut)(cl:List Prd)(Q:List (List Int)):Ga a cl Q 0=[]:=rfl
attribute [local irreducible] P1 Q1 Qk mpT Ta Zw Ux Ga Re stepG Pp V3
set_option maxHeartbeats 8000000 in
def Tx(a:Aut):PC prog 15 [encA a] (λr=>r= .tup [encA (Ed a).2,.i (Ed a).1]):=by
 refine pcB func15 results15 ntmps15 ?_;simp only[Qe];simp only[encA];repeat(refine s_ ?_;simp)
 have yd:=j0u [.vars (Ql a),.vars [.i 0,.nils,.nils]] a;refine Q0 rfl rfl yd rfl ?_;rintro res H' ⟨hk,⟨he,rfl⟩|⟨he,r,p,m,rfl,ht,hr,hp,hm⟩⟩
 ·have hd:Ed a=((P1 a).1,Iq):=by rw[Ed,if_pos he]
  rw[hd];have k0:=hk 0 (by simp);have k1:=hk 1 (by simp);simp at k0 k1;simp;repeat(refine s_ ?_;simp[Qb k1])
  refine Qa rfl (λ_=>?_) (λh=>by simp at h;exact absurd h he);have k2:∀L Y,((H'++L).set 1 Y)[1]?=some Y:=λL Y=>Qg (Qb k1 L) Y;repeat(refine s_ ?_;simp[Qb k1,k2])
  exact⟨rfl,rfl,rfl⟩
 obtain⟨zn,cl,Q,x5,vp,xv,z8,zd,zo⟩:=q0g he;have hd:Ed a=Zw (Ux a cl Q):=by rw[Ed,x5];simp
 rw[hd];rw[x5]at ht;simp only at ht;have k0:=hk 0 (by simp);have k1:=hk 1 (by simp);simp at k0 k1;have xw:=ht.t;have vq:=ht.s;simp;repeat(refine s_ ?_;simp[Qb k1])
 refine Qa rfl (λh=>by simp[he]at h) (λ_=>?_);have k0a:∀(L:List AObj) hh,(H'++L)[0]'hh= .vars (Ql a):=λL hh=>by have:=Qb k0 L;rw[zP hh]at this;exact Option.some.inj this
 have ye:=λL=>Qb (G:=L) xw;repeat(refine s_ ?_;simp[Qb k0,k0a,ye])
 have xx:=Qf ht.t;have xy:=Qf ht.s;have xz:=Qf ht.n;refine Qp (sl':=[(1,.vptr 0 0),(2,.vptr 1 0),(3,.i 0),(4,.vptr H'.length 0),(6,.vptr (H'.length+1) 0),(30,.sl p 1 0 Q.length),(31,.i Q.length),(32,.i (0:Nat))]) ?_ (by simp);refine Ts (H'.length+1) 1 4 1 (xs:=[.i a.types,.nils,.nils]) (by rw[zO (by omega)];simp) rfl ?_;refine Wb λZ1 zp=>?_;have z1l:Z1.length=H'.length+3:=by rw[zp];simp
 have z1c:Z1[H'.length+1]?=some (.vars [.i a.types,.sl (H'.length+2) 1 0 0,.nils]):=by rw[zp,zS (by simp)];simp
 have z1f:Z1[H'.length+2]?=some (.arr 4 1 []):=by rw[zp,zH (by omega),zO (by simp)];simp
 have z1b:Z1[H'.length]?=some (.vars [.vptr r 0]):=by rw[zp,zH (by omega),xU,zO (by omega)];simp
 have z1k:∀i,i<H'.length->Z1[i]? =H'[i]? :=λi hi=>by rw[zp,zH (by omega),xU,zI hi]
 clear zp;refine Ts (H'.length+1) 2 73 3 z1c rfl ?_;refine Wb λZ2 y6=>?_;have z2c:Z2[H'.length+1]?=some (.vars [.i a.types,.sl (H'.length+2) 1 0 0,.sl (H'.length+3) 3 0 0]):=by rw[y6,zS (by simp;omega)];simp[z1l]
 have z2v:Z2[H'.length+3]?=some (.arr 73 3 []):=by rw[y6,zH (by omega),zO (by omega)];simp[z1l]
 have z2k:∀i,i<Z1.length->i≠H'.length+1->Z2[i]? =Z1[i]? :=λi hi w8=>by rw[y6,zH (Ne.symm w8),zI hi]
 clear y6;have hb:=(z2k _ (by omega) (by omega)).trans z1b;have x6:=(z2k _ (by omega) (by omega)).trans z1f;have hold:∀i,i<H'.length->Z2[i]? =H'[i]? :=λi hi=>(z2k i (by omega) (by omega)).trans (z1k i hi);have x7:=(hold 0 (Qf k0)).trans k0;have x8:=(hold 1 (Qf k1)).trans k1;obtain⟨zh,z7⟩:∃zh:List (Nat×AObj),zh=[(0,.vars (Ql a)),(1,.vars [.i 0,.nils,.nils]),(H'.length,.vars [.vptr r 0]),(r,.vars [.i a.types,.list (a.fin.map .bool),.list (a.mv.map encMv),LP cl,.sl p 1 0 Q.length,.mref m]),(p,.arr 47 1 (LQ Q)),(m,mpT (Q.map Ta))]:=⟨_,rfl⟩
 have x9:Fx zh Z2:=by
  rw[z7];intro x hx;simp only[yO,uo,or_false]at hx;rcases hx with rfl|rfl|rfl|rfl|rfl|rfl
  ·exact x7
  ·exact x8
  ·exact hb
  ·exact(hold r xx).trans ht.t
  ·exact(hold p xy).trans ht.s
  exact(hold m xz).trans ht.n
 have wa:=z8.lim;have xa:∀x∈Q,A3 x:=λx hx=>by have he:=z8.elem x hx;have:=w0p he.1 he.2;have:=zn.fin;exact⟨z8.ne x hx,by omega,λz hz=>by have:=he.2 z hz;omega⟩
 have wb:=zn.fin;generalize H'.length+1=c at *;generalize H'.length=b at *;refine Qi (Qc (sl':=[(1,.vptr 0 0),(2,.vptr 1 0),(3,.i 0),(4,.vptr b 0),(6,.vptr c 0),(30,.sl p 1 0 Q.length),(31,.i Q.length),(32,.i (0:Nat))]) ?_ (by simp))
 refine Qj (F:=λ(u:Nat×Nat×Nat×List AObj)=>⟨[(1,.vptr 0 0),(2,.vptr 1 0),(3,.i 0),(4,.vptr b 0),(6,.vptr c 0),(30,.sl p 1 0 Q.length),(31,.i Q.length),(32,.i u.1)],u.2.2.2⟩)
  (λu=>u.1<=Q.length/\Fx zh u.2.2.2/\u.2.2.2[c]?=some (.vars [.i a.types,.sl u.2.1 1 0 u.1,.sl u.2.2.1 3 0 (Ga a cl Q u.1).length])/\u.2.2.2[u.2.1]?=some (.arr 4 1 (((Q.take u.1).map (Pp a)).map .bool))/\u.2.2.2[u.2.2.1]?=some (.arr 73 3 ((Ga a cl Q u.1).map encMv))) (λu=>Q.length - u.1) ?_ (0,_,_,Z2) ⟨by simp,x9,by rw[Np];exact z2c,by simpa using x6,by rw[Np];exact z2v⟩
 clear x9 z2c x6 z2v hb x7 x8 hold z2k z1k z1b z1f z1c z1l;clear Z2 Z1;rintro⟨n,f,v,G⟩ ⟨hn,hF,gc,gf,gv⟩ ih;simp only at hn hF gc gf gv ih |-;repeat(refine s_ ?_;simp)
 refine Qa rfl (λwe=>?_) (λy8=>?_)
 ·have ze:n<Q.length:=by simpa using we
  have hw:=wz n (by omega);have gs:G[p]?=some (.arr 47 1 (LQ Q)):=hF (p,_) (by rw[z7];simp);repeat(refine s_ ?_;simp[gs,ze])
  have xb:=zT ze;have hle:=z8.elem _ xb;have wg:Q.getD n []=Q[n]:=by simp[yV,ze]
  have xc:=V9 a cl Q n;have wh:(Q.take (n+1)).map (Pp a)=(Q.take n).map (Pp a)++[Pp a Q[n]]:=by rw[zY ze,xA];rfl
  rw[wg]at xc;have wi:=(f1n a cl Q (z8.lim) zd n ze).2;have zq:=z8.closed _ xb;have vr:=w0p hle.1 hle.2;have wj:=λL=>Qb (G:=L) gc;have g0:∀L,(G++L)[0]?=some (.vars (Ql a)):=λL=>Qb (hF (0,_) (by rw[z7];simp)) L;have wk:((Q.take n).map (Pp a)).length=n:=by simp;omega
  generalize Q[n]=l at *
  have wF:=hF.app [.vars [.i n]];have wc:=Qb gc [.vars [.i n]];have wf:=Qb gf [.vars [.i n]];have wv:=Qb gv [.vars [.i n]];have w7:(G++[AObj.vars [.i n]])[G.length]?=some (.vars [.i n]):=by simp
  have w0:=g0 [.vars [.i n]];refine Qp (sl':=[(1,.vptr 0 0),(2,.vptr 1 0),(3,.i 0),(4,.vptr b 0),(6,.vptr c 0),(7,.vptr G.length 0),(8,LI l),(30,.sl p 1 0 Q.length),(31,.i Q.length),(32,.i n)]) ?_ (by simp);generalize G.length=n7 at *;generalize G++[AObj.vars [.i n]]=W at *;clear g0 wj gs gc gf gv hF;clear G
  have yf:((Q.take (n+1)).map (Pp a)).map AV.bool=((Q.take n).map (Pp a)).map AV.bool++[.bool (Pp a l)]:=by rw[wh];simp
  have xd:(((Q.take n).map (Pp a)).map AV.bool).length=n:=by rw[yL];exact wk
  generalize ((Q.take n).map (Pp a)).map AV.bool=xs at *
  have zr:c≠f:=λe=>by rw[e,wf]at wc;simp at wc
  have yg:c≠v:=λe=>by rw[e,wv]at wc;simp at wc
  have zt:f≠v:=λe=>by rw[e,wv]at wf;simp at wf
  have hc7:c≠n7:=λe=>by rw[e,w7]at wc;simp at wc
  have xe:f≠n7:=λe=>by rw[e,w7]at wf;simp at wf
  have z6:∀p∈zh,p.2≠ .vars [.i a.types,.sl f 1 0 n,.sl v 3 0 (Ga a cl Q n).length]:=by rw[z7];simp[Ri]
  have zu:∀p∈zh,p.2≠ .arr 4 1 xs:=by rw[z7];simp[Ri]
  have wm:=Qf wc;have wo:=Qf wf;have zv:=Qf wv;have xf:=Qf w7;have xg:=wF.set wf zu .dead;have ya:∀L,(W.set f .dead++L)[c]?=some (.vars [.i a.types,.sl f 1 0 n,.sl v 3 0 (Ga a cl Q n).length]):=λL=>Qb (Qd (Ne.symm zr) wc _) L;refine Dg (P:=prog) tOk mixed [4,6,8] (.val 0 (.val 2 (.val 3 (.two 1 (.one 4 (.one 5 (.one 6 (.val 7 (.one 8 (.done)))))) 4 (.val 1 (.one 5 (.one 6 (.val 7 (.one 8 (.done)))))))))) (λS'=>∃f',Fx zh S'.hp/\S'.hp[n7]?=some (.vars [.i n])/\S'.hp[c]?=some (.vars [.i a.types,.sl f' 1 0 (n+1),.sl v 3 0 (Ga a cl Q n).length])/\S'.hp[f']?=some (.arr 4 1 (xs++[.bool (Pp a l)]))/\S'.hp[v]?=some (.arr 73 3 ((Ga a cl Q n).map encMv))/\look S'.sl 1=some (.vptr 0 0)/\look S'.sl 2=some (.vptr 1 0)/\look S'.sl 3=some (.i 0)/\look S'.sl 4=some (.vptr b 0)/\look S'.sl 6=some (.vptr c 0)/\look S'.sl 7=some (.vptr n7 0)/\look S'.sl 8=some (LI l)/\look S'.sl 30=some (.sl p 1 0 Q.length)/\look S'.sl 31=some (.i Q.length)/\look S'.sl 32=some (.i n)) rfl (by kernel_rfl) ?_ ?_
  ·simp[wc];refine⟨?_,?_⟩;all_goals
    refine Q0 rfl rfl (B8 W l 48 (.vptr 0 0) (λs=>a.fin.getD s.toNat false) (by omega) (λz hz=>q20 W 0 a w0 z (hle.2 z hz).1 (hle.2 z hz).2)) rfl ?_;rintro _ H2 ⟨rfl,wq⟩;rw[wq];have wu:l.any (λs=>a.fin.getD s.toNat false)=Pp a l:=by unfold Pp;rfl
    rw[wu];simp[wc];refine apS T22 T4 ?_;simp[Qb wf,Qh wf,xd,ya,Qb wc];refine⟨by simp[W1,Qb wf,Qh wf,xd,ya,Qb wc]<;>omega,?_⟩;refine⟨?_,?_,W.length+1,?_,?_,?_⟩
    ·exact(xg.app _).set (ya _) z6 _
    ·rw[zH hc7,zI (by simpa using xf),zH xe];exact w7
    ·rw[zS (by simp;omega)]
    ·rw[zH (by omega),zO (by simp)];simp
    rw[zH yg,zI (by simpa using zv),zH zt];exact wv
  rintro⟨sl,E⟩ ⟨f',eF,e7,ec,ef,ev,s1,s2,s3,s4,s6,s7,s8,s30,s31,s32⟩;simp only at eF e7 ec ef ev s1 s2 s3 s4 s6 s7 s8 s30 s31 s32;refine Qp (sl':=[(1,.vptr 0 0),(2,.vptr 1 0),(3,.i 0),(4,.vptr b 0),(6,.vptr c 0),(7,.vptr n7 0),(8,LI l),(30,.sl p 1 0 Q.length),(31,.i Q.length),(32,.i n)]) ?_ (by simp[s1,s2,s3,s4,s6,s7,s8,s30,s31,s32]);clear s1 s2 s3 s4 s6 s7 s8 s30 s31 s32 xg ya z6 zu wm wo zv xf zr yg zt hc7 xe w0 w7 wv wf wc wF;have eb:E[b]?=some (.vars [.vptr r 0]):=eF (b,_) (by rw[z7];simp);repeat(refine s_ ?_;simp[ec,Qb eb])
  have yh:∀g c,Q1 a l (Qk c)=[]->stepG a Q n l g c=g:=λg c hx=>k1y z8.ne hx;have yi:∀g c t,Q[t]?=some (Q1 a l (Qk c))->stepG a Q n l g c=Yi n g t c:=λg c t hx=>z14 z8.nd hx;have xh:=λk c hc=>w0y a cl Q n l (k:=k) (c:=c) hc;have wx:=λk=>Hf a cl Q n l zd k;have xi:Re a cl Q n l 0=[]:=g0j a cl Q n l;have wy:=Hs a cl Q n l;have v7:∀k,∀m∈Re a cl Q n l k,PWf a.types.toNat m.on:=g1u (λc hc=>(zo c hc).2.2.2.1);have v8:∀k,∀m∈Re a cl Q n l k,∀s∈m.on,s.length<=65536:=g1q (λc hc=>(zo c hc).2.2.2.2) zd;have xj:=λf v G=>ih (n+1,f,v,G);simp only[xc,<-wy,yf]at xj;clear ih;generalize Ga a cl Q n=pre at *;refine Q0 rfl rfl (Sl _ r l) rfl ?_
  rintro _ _ ⟨rfl,rfl⟩;simp;repeat(refine s_ ?_;simp)
  obtain⟨zg,z6⟩:∃zg:List (Nat×AObj),zg=zh++[(n7,.vars [.i n]),(E.length,.vars [.i pre.length]),(E.length+1,.vars [.vptr r 0]),(E.length+2,.vars [LI l]),(f',.arr 4 1 (xs++[.bool (Pp a l)]))]:=⟨_,rfl⟩
  refine Ej rfl (Rf:=λ_ H'=>∃v,Fx zg H'/\H'[c]?=some (.vars [.i a.types,.sl f' 1 0 (n+1),.sl v 3 0 (pre++Re a cl Q n l cl.length).length])/\H'[v]?=some (.arr 73 3 ((pre++Re a cl Q n l cl.length).map encMv))/\∃sl' ps' a' b',H'[E.length+3]?=some (.lp true none 100 sl' ps' a' b')) ?_ ?_
  ·simp;refine F3 λH1 zw=>?_;have vb:Fx zg H1:=by
    rw[z6,zw];intro x hx;rcases yB.1 hx with hx|hx
    ·exact(eF.app _) x hx
    simp only[yO,uo,or_false]at hx;rcases hx with rfl|rfl|rfl|rfl|rfl
    ·exact Qb e7 _
    ·rw[zO (by simp)];simp
    ·rw[zO (by simp)];simp
    ·rw[zO (by simp)];simp
    exact Qb ef _
   have fc:H1[c]?=some (.vars [.i a.types,.sl f' 1 0 (n+1),.sl v 3 0 pre.length]):=by rw[zw];exact Qb ec _
   have fv:H1[v]?=some (.arr 73 3 (pre.map encMv)):=by rw[zw];exact Qb ev _
   have fq:=congrArg (λh:List AObj=>h[E.length+3]?) zw;simp at fq;clear zw;refine FC.mono (y0q a zn cl l (λc hc=>⟨(zo c hc).1,(zo c hc).2.1,(zo c hc).2.2.1⟩) zd (E.length+3) (E.length+1) (E.length+2) r (by rfl) (by rfl)
    (λk H'=>∃v,Fx zg H'/\H'[c]?=some (.vars [.i a.types,.sl f' 1 0 (n+1),.sl v 3 0 (pre++Re a cl Q n l k).length])/\H'[v]?=some (.arr 73 3 ((pre++Re a cl Q n l k).map encMv))/\H'[E.length+3]? =H1[E.length+3]?)
    (λk H' ⟨v',h1,h2,h3,h4⟩=>⟨h4.trans fq,h1 (E.length+1,_) (by rw[z6];simp),h1 (E.length+2,_) (by rw[z6];simp),[.sl p 1 0 Q.length,.mref m],h1 (r,_) (by rw[z6,z7];simp)⟩) ?_ ?_ ?_ H1 ⟨v,vb,by rw[xi,xO];exact fc,by rw[xi,xO];exact fv,rfl⟩) ?_
   ·rintro k H' L ⟨v',h1,h2,h3,h4⟩;exact⟨v',h1.app L,Qb h2 L,Qb h3 L,by rw[<-h4,zI (by rw[fq]at h4;exact Qf h4)]⟩
   ·rintro k cc H' hc yj ⟨v',h1,h2,h3,h4⟩;have:=yh (Re a cl Q n l k) cc yj;rw[<-xh k cc hc]at this;exact⟨v',h1,by rw[this];exact h2,by rw[this];exact h3,h4⟩
   ·rintro k cc H' hc yj ⟨v',h1,h2,h3,h4⟩;rw[xh k cc hc];have zx:=zL hc;have yk:Q1 a l (Qk cc)∈Q:=(zq cc zx).resolve_left yj;have yl:=yi (Re a cl Q n l k) cc;have vc:=wx k;have zj:=v7 k;have ym:=v8 k;have zi:=zo cc zx;generalize Q1 a l (Qk cc)=nx at *;generalize stepG a Q n l (Re a cl Q n l k) cc=g2 at *;generalize Re a cl Q n l k=g at *
    simp[Rz];have h8:=h4.trans fq;obtain⟨LP0,zk⟩:∃LP0,H1[E.length+3]?=some LP0:=⟨_,fq⟩
    have za:LP0.isLp=true:=by rw[fq]at zk;injection zk with e;rw[<-e];rfl
    have zb:H'[E.length+3]?=some LP0:=h4.trans zk;have yn:∀p∈zg,p.2≠LP0:=λp hp e=>by rw[<-e]at za;rw[z6,z7]at hp;simp only[yB,yO,uo,or_false]at hp;rcases hp with(rfl|rfl|rfl|rfl|rfl|rfl)|(rfl|rfl|rfl|rfl|rfl)<;>simp[AObj.isLp,Ri]at za
    have y1:=h1.set zb yn .dead;have yo:E.length+3≠c:=λe=>by rw[e,h2]at zb;injection zb with e2;rw[<-e2]at za;simp[AObj.isLp]at za
    have yp:E.length+3≠v':=λe=>by rw[e,h3]at zb;injection zb with e2;rw[<-e2]at za;simp[AObj.isLp]at za
    have y2:=Qd yo h2 .dead;have y3:=Qd yp h3 .dead;have y4:=Qg zb .dead;generalize H'.set (E.length+3) .dead=Y at *
    have yb:Y[b]?=some (.vars [.vptr r 0]):=y1 (b,_) (by rw[z6,z7];simp);have y0:Y[0]?=some (.vars (Ql a)):=y1 (0,_) (by rw[z6,z7];simp);have y7:Y[n7]?=some (.vars [.i n]):=y1 (n7,_) (by rw[z6];simp);have y9:Y[E.length]?=some (.vars [.i pre.length]):=y1 (E.length,_) (by rw[z6];simp);have yt:TB r p m a cl Q Y:=⟨y1 (r,_) (by rw[z6,z7];simp),y1 (p,_) (by rw[z6,z7];simp),y1 (m,_) (by rw[z6,z7];simp)⟩
    repeat(refine s_ ?_;simp[Qb yb])
    refine Q0 rfl rfl (z0i _ r p m a cl Q nx (yt.keep λj hj=>?_) (xa nx yk) xa (by omega)) rfl ?_
    ·have:j<Y.length:=by
      rcases hj with rfl|rfl|rfl
      ·exact Qf yt.t
      ·exact Qf yt.s
      exact Qf yt.n
     exact zI this
    rintro res Z ⟨t,p2,rfl,xk,-,-,-,hZ,-⟩;rw[hZ yk];have yq:g08 Q nx=Q:=by rw[g08,if_pos yk]
    rw[yq]at xk;rw[yl t xk];clear hZ;simp;repeat(refine s_ ?_;simp[Qb y2,Qb y9])
    have xl:∀M,(Y++M)[v']?=some (.arr 73 3 ((pre++g).map encMv)):=λM=>Qb y3 M;refine Q0 rfl rfl (y1q (Y++[AObj.vars [.list (cc.map encL)],.vars [.i t]]) v' pre.length t (Y.length+1) pre g (by rw[zO (by omega)];simp) (xl _) (by omega) rfl) rfl ?_;rintro _ _ ⟨rfl,L,rfl⟩;simp;repeat(refine s_ ?_;simp)
    have w1:=y1.app ([AObj.vars [.list (cc.map encL)],.vars [.i t]]++L);have w2:=Qb y2 ([AObj.vars [.list (cc.map encL)],.vars [.i t]]++L);have w3:=xl ([AObj.vars [.list (cc.map encL)],.vars [.i t]]++L);have w4:=Qb y4 ([AObj.vars [.list (cc.map encL)],.vars [.i t]]++L);have w5:(Y++([AObj.vars [.list (cc.map encL)],.vars [.i t]]++L))[Y.length]?=some (.vars [.list (cc.map encL)]):=by rw[zO (by omega)];simp
    have w6:(Y++([AObj.vars [.list (cc.map encL)],.vars [.i t]]++L))[Y.length+1]?=some (.vars [.i t]):=by rw[zO (by omega)];simp
    have w7:=Qb y7 ([AObj.vars [.list (cc.map encL)],.vars [.i t]]++L);have w0:=Qb y0 ([AObj.vars [.list (cc.map encL)],.vars [.i t]]++L);have w9:=Qb y9 ([AObj.vars [.list (cc.map encL)],.vars [.i t]]++L);have xm:((a.types.toNat:Nat):Int)=a.types:=by have:=zn.types;omega
    simp only[List.cons_append,List.nil_append]at w0 w1 w2 w3 w4 w5 w6 w7 w9;generalize Y++AObj.vars [.list (cc.map encL)]::AObj.vars [.i t]::L=W at *;generalize Y.length+1=i12 at *;generalize Y.length=i10 at *
    have xn:∀p∈zg,p.2≠ .dead:=by rw[z6,z7];simp[Ri]
    have yr:∀p∈zg,p.2≠ .vars [.i a.types,.sl f' 1 0 (n+1),.sl v' 3 0 (pre.length+g.length)]:=by rw[z6,z7];simp[Ri]
    have zy:∀p∈zg,p.2≠ .arr 73 3 ((pre++g).map encMv):=by rw[z6,z7];simp[Ri]
    rw[yP]at w2;have xo:v'≠c:=λe=>by rw[e,w2]at w3;simp at w3
    have yu:v'≠E.length+3:=λe=>by rw[e,w4]at w3;simp at w3
    have yv:c≠E.length+3:=λe=>by rw[e,w4]at w2;simp at w2
    have lc:=Qf w2;have lv:=Qf w3;have lq:=Qf w4;refine Qp (sl':=[(1,.vptr 0 0),(6,.vptr c 0),(7,.vptr n7 0),(9,.vptr E.length 0),(10,.vptr i10 0),(12,.vptr i12 0),(13,.i (z18 g t)),(63,.bool (decide (z18 g t<0)))]) ?_ (by simp);cases hfi:g.findIdx? λm:Mv=>decide (m.dst=(t:Int))with
    |none=>
     have yw:z18 g t= -1:=by rw[z18,hfi]
     have zl:Yi n g t cc=g++[⟨n,t,cc⟩]:=by rw[Yi,hfi]
     rw[yw,zl];refine Qv rfl ?_;simp;repeat(refine s_ ?_;simp)
     refine Qn tOk mixed [11,13] (.val 0 (.val 1 (.val 2 (.val 3 (.val 4 (.val 5 (.val 6 (.one 7 (.one 8 (.val 9 (.one 10 (.one 11 (.val 12 (.one 13 (.done))))))))))))))) rfl (by kernel_rfl) ?_;simp[w0,w2,w5,w6,w7];refine Wq W.length (e:=70) (c:=1) (xs:=[encP cc]) (by simp) ?_;simp;have xp:=Z7 a.types.toNat [cc] (by have:=zn.types;omega) (λp hp=>by rw[zV.1 hp];exact zi.2.2.2.1) (λj hj=>z2q zi.2.2.2.1 zi.2.2.2.2 hj) (by simp);rw[xm,y27 zi.2.2.2.1]at xp;refine pcL (xp) ?_;simp;have w2b:∀M,(W++M)[c]?=some (.vars [.i a.types,.sl f' 1 0 (n+1),.sl v' 3 0 (pre.length+g.length)]):=λM=>Qb w2 M;have w2c:∀M,(W.set v' .dead++M)[c]?=some (.vars [.i a.types,.sl f' 1 0 (n+1),.sl v' 3 0 (pre.length+g.length)]):=λM=>Qb (Qd xo w2 _) M;have zv:((pre++g).map encMv).length=pre.length+g.length:=by simp
     have vd:=(w1.set w3 zy .dead)
     generalize yx:(pre++g).map encMv=mm at *;refine apS T23 T73 ?_
     simp[Qb w3,Qh w3,w2b,w2c,zv];refine⟨by simp[W1,Qb w3,Qh w3,w2b,w2c,zv]<;>omega,?_⟩;repeat(refine s_ ?_;simp)
     have zm:((W.set v' AObj.dead++[AObj.dead,AObj.arr 73 3 [.agg [.i n,.i t,.list (cc.map encL)]],AObj.arr 73 3 (mm++[.agg [.i n,.i t,.list (cc.map encL)]])]).set c (AObj.vars [.i a.types,.sl f' 1 0 (n+1),.sl (W.length+2) 3 0 (pre.length+g.length+1)]))[E.length+3]?=some .dead:=by rw[zH yv,zI (by simpa using lq),zH yu];exact w4
     refine⟨zm,rfl,((vd.app _).set (w2c _) yr _).set zm xn _,W.length+2,?_,?_,?_⟩
     ·rw[zH (Ne.symm yv),zS (by simp;omega)];simp[Nat.add_assoc]
     ·rw[zH (by omega),zH (by omega),zO (by simp)];rw[<-yx];simp
     rw[fq,zS (Qf zm)]
    |some i=>
     have yw:z18 g t=i:=by rw[z18,hfi]
     obtain⟨xq,hid,-⟩:=List.findIdx?_eq_some_iff_getElem.1 hfi;have xr:g[i]?=some g[i]:=zP xq;have zl:Yi n g t cc=g.set i { g[i]with on:=R4 g[i].on cc }:=by rw[Yi,hfi];simp[xr]
     rw[yw,zl];refine Qa rfl (λh=>by simp at h;omega) (λ_=>?_);have ve:IntKind.i64.wrap ((pre.length:Int)+i)=pre.length+i:=wrap_i64 _ (by omega) (by omega);have yy:(pre.length:Int)+i<pre.length+g.length:=by omega
     have vf:(0:Int)<=(pre.length:Int)+i:=by omega
     have vg:((pre.length:Int)+i).toNat=pre.length+i:=by omega
     repeat(refine s_ ?_;simp[w2,w9,ve,yy,vf,vg])
     have y8:((pre++g).map encMv)[pre.length+i]?=some (.agg [.i g[i].src,.i g[i].dst,.list (g[i].on.map encL)]):=by rw[xA,zO (by simp)];simp[xr]
     have yz:((pre++g).map encMv).length=pre.length+g.length:=by simp
     generalize yx:(pre++g).map encMv=mm at *
     have x0:y_ 2=[0,1]:=rfl;refine Qn tOk mixed [12] (.val 0 (.val 1 (.val 2 (.val 3 (.val 4 (.val 5 (.val 6 (.val 7 (.one 8 (.one 9 (.val 10 (.val 11 (.one 12 (.done)))))))))))))) rfl (by kernel_rfl) ?_;simp[w0,w3,w5,y8,yz,x0];refine Wq W.length (e:=70) (c:=1) (xs:=[encP g[i].on,encP cc]) (by simp) ?_;simp;have yc:=zT xq;have xt:=Z7 a.types.toNat [g[i].on,cc] (by have:=zn.types;omega) (λp hp=>by
      simp only[yO,uo,or_false]at hp;rcases hp with rfl|rfl
      ·exact zj _ yc
      exact zi.2.2.2.1) (λj hj=>x2k (zj _ yc) zi.2.2.2.1 (ym _ yc) zi.2.2.2.2 hj) (by simp)
     rw[xm,w20 (zj _ yc) zi.2.2.2.1]at xt;have w3b:∀M,(W++M)[v']?=some (.arr 73 3 mm):=λM=>Qb w3 M;refine pcL (xt) ?_;simp[w3b,y8,Qh w3];repeat(refine s_ ?_;simp)
     have zm:(W.set v' (AObj.arr 73 3 (mm.set (pre.length+i) (.agg [.i g[i].src,.i g[i].dst,.list ((R4 g[i].on cc).map encL)])))++[AObj.dead])[E.length+3]?=some .dead:=by rw[zI (by simpa using lq),zH yu];exact w4
     refine⟨zm,rfl,(((w1.set w3 zy _).app _).set zm xn _),v',?_,?_,?_⟩
     ·rw[zH (Ne.symm yv),zI (by simpa using lc),zH xo];rw[w2]
     ·rw[zH (Ne.symm yu),zI (by simpa using lv),zS lv];rw[<-yx,xA,List.set_append_right _ _ (by simp)];simp[List.map_set]
     rw[fq,zS (Qf zm)]
   rintro _ H' ⟨v',h1,h2,h3,h4⟩;exact⟨h1,v',by simpa using h2,by simpa using h3,_,_,_,_,h4.trans fq⟩
  rintro res H' ⟨v',h1,h2,h3,⟨sl',ps',a',b',h6⟩⟩;refine⟨true,none,100,sl',ps',a',b',by simpa using h6,?_⟩;simp;have yo:E.length+3≠c:=λe=>by rw[e,h2]at h6;simp at h6
  have yp:E.length+3≠v':=λe=>by rw[e,h3]at h6;simp at h6
  have y1:=h1.set h6 (by rw[z6,z7];simp[Ri]) .dead;have y2:=Qd yo h2 .dead;have y3:=Qd yp h3 .dead;generalize H'.set (E.length+3) .dead=Y at *
  repeat(refine s_ ?_;simp[hw])
  refine Qc (sl':=[(1,.vptr 0 0),(2,.vptr 1 0),(3,.i 0),(4,.vptr b 0),(6,.vptr c 0),(30,.sl p 1 0 Q.length),(31,.i Q.length),(32,.i (n+1:Nat))]) ?_ (by simp);refine xj f' v' Y ⟨by omega,λx hx=>y1 x (by rw[z6];exact xB _ hx),y2,y1 (f',_) (by rw[z6];simp),y3⟩ (by omega)
 have x2:n=Q.length:=by simp at y8;omega
 subst x2;have zz:Ga a cl Q Q.length=(Ux a cl Q).mv:=u10 a cl Q;have x3:(Q.take Q.length).map (Pp a)=(Ux a cl Q).fin:=by rw[yR];exact(v06 a cl Q).symm
 have vh:(Ux a cl Q).fin.length=Q.length:=by rw[v06];simp
 have vi:(Ux a cl Q).mv.length<=65536:=by rw[<-zz];exact d0l a cl Q wa zd
 rw[zz]at gc gv;rw[x3]at gf;rw[<-vh]at gc;have vj:(Ux a cl Q).types=a.types:=g0u a cl Q;have yy:Zw (Ux a cl Q)=if V3 (Ux a cl Q)then(5,Iq)else(0,Ux a cl Q):=v0y _
 rw[yy];generalize Ux a cl Q=d at *
 have g1:G[1]?=some (.vars [.i 0,.nils,.nils]):=hF (1,_) (by rw[z7];simp);have yg:v≠c:=λe=>by rw[e,gc]at gv;simp at gv
 have zt:f≠v:=λe=>by rw[e,gv]at gf;simp at gf
 have yd:f≠c:=λe=>by rw[e,gc]at gf;simp at gf
 have vk:f≠1:=λe=>by rw[e,g1]at gf;simp at gf
 have vl:v≠1:=λe=>by rw[e,g1]at gv;simp at gv
 have vm:c≠1:=λe=>by rw[e,g1]at gc;simp at gc
 refine Qp (sl':=[(2,.vptr 1 0),(3,.i 0),(6,.vptr c 0)]) ?_ (by simp);refine Wn v gv c gc ?_;simp[zt];rw[zZ (by simp)];have x4:=Qf gc;have vn:=Qf gf;refine Wb λZ hZ=>?_;have zc:Z[c]?=some (.vars [.i d.types,.sl f 1 0 d.fin.length,.list (d.mv.map encMv)]):=by rw[hZ,vj];exact zS (by simpa using x4)
 have zf:Z[f]?=some (.arr 4 1 (d.fin.map .bool)):=by rw[hZ,zH (Ne.symm yd),zH (Ne.symm zt)];exact gf
 have z1:Z[1]?=some (.vars [.i 0,.nils,.nils]):=by rw[hZ,zH vm,zH vl];exact g1
 clear hZ;repeat(refine s_ ?_;simp[zc])
 refine Q0 rfl rfl (Jv Z f d zf (by omega) (by omega)) rfl ?_;rintro res Y ⟨hr,xu⟩;have y5:=(xu 1 (Qf z1)).trans z1;have vo:=(xu f (Qf zf)).trans zf;have x0:∀X,(Y.set 1 X)[1]?=some X:=λX=>Qg y5 X;rcases hr with⟨hb,rfl⟩|⟨hb,rfl⟩
 ·rw[hb];simp[y5];repeat(refine s_ ?_;simp[x0])
  exact⟨rfl,rfl,rfl⟩
 rw[hb];simp[y5];refine Qp (sl':=[(2,.vptr 1 0),(3,.i 0)]) ?_ (by simp);refine Wn f (Qd (Ne.symm vk) vo _) 1 (Qg y5 _) ?_;simp;rw[zZ (by simp)];refine Wb λX hX=>?_;have x1:X[1]?=some (.vars [.i d.types,.list (d.fin.map .bool),.list (d.mv.map encMv)]):=by rw[hX];exact zS (by have:=Qf y5;simpa using this)
 repeat(refine s_ ?_;simp[x1])
end
section
open Go Go.Proofs Go.Maps Go.RowKit
def k2w{a:Aut}(h:(Ed a).1=0):OkA (Ed a).2:=by
 have h0:(P1 a).1=0:=by
  by_cases hs:(P1 a).1=0
  ·exact hs
  rw[Ed,if_pos hs]at h;exact absurd h hs
 obtain⟨z8,cl,Q,z7,za,z1,z6,_,_⟩:=q0g h0;have hd:Ed a=Zw (Ux a cl Q):=by rw[Ed,z7];simp
 rw[hd]at h |-;have hw:=q2j z1 z6;have e:Zw (Ux a cl Q)=(0,(Zw (Ux a cl Q)).2):=un h rfl;have h2:=q14 hw e;rw[h2.1];exact h2.1▸h2.2
attribute [local irreducible] Ed Du
end
section
open Go Go.Proofs Go.Maps Go.RowKit
attribute [local irreducible] Wd
attribute [local irreducible] Du w06 w1e W3 z1t Wi
end
section
open Go Go.Proofs Go.Maps Go.RowKit
section
variable {P:Program} [Env P] {T:TT} {nt k:Nat} {S:AS}
def U0 (hT:TOk P T) (hm:P.follows .mixedOrders=true) {Q:Exit->AS->Prop} {id:Nat} {l:List Oper} (Wr:List Nat) (p:PlanM) (Ph:AS->Prop) (hd:Uk nt l=true)
  (hp:(Region.noSelect l.toArray && p.size==l.length && Y9 l.toArray (U2 l []) Wr p (Array.replicate l.length false))=true)
  (h:U8 P T nt k l.toArray Wr.contains Ph p S) (hn:∀S',Ph S'->Q .normal S'):AWP P nt k (.region id l.toArray true) Q S:=
 (Jz (Q:=λe S=>e= .normal/\Ph S) hT hm Wr p hd hp (Ei (λ_ h=>⟨rfl,h⟩) p S h)).mono λe S ⟨he,hr⟩=>by subst he;exact hn S hr
end
attribute [local irreducible] E5 upL
end
section
open Go Go.Proofs Go.Maps Go.RowKit
def k20(p q:Prd):K0 (Qk p) (Qk q)=Nf (Qy p 0) (Qy q 0):=by
 have h1:decide (((Qy p 0).1:Int)<(Qy q 0).1)=decide ((Qy p 0).1<(Qy q 0).1):=by rw[decide_eq_decide];omega
 have h2:decide (((Qy p 0).1:Int)=(Qy q 0).1)=decide ((Qy p 0).1=(Qy q 0).1):=by rw[decide_eq_decide];omega
 unfold K0 Nf Qk;simp only[h1,h2]
attribute [local irreducible] Wi Ee Tk Wp v1g Po Ue Qy
end
section
open Go Go.Proofs Go.Maps Go.RowKit
attribute [local irreducible] Q9 Ra
attribute [local irreducible] Un
end
section
open Go Go.Proofs Go.Maps Go.RowKit
attribute [local irreducible] Q1 Qk u0v Tt Tb Nq Wd
end
section
open Go Go.Proofs Go.Maps Go.RowKit
attribute [local irreducible] P1 Q1 Qk Zw Ux Ga Re stepG Pp V3 Nq Wd
end
section
open Go Go.Proofs Go.Maps Go.RowKit
attribute [local irreducible] Ed Kw Du
end
section
open Go Go.Proofs Go.Maps Go.RowKit
attribute [local irreducible] w06 Hq Wd
attribute [local irreducible] Ti
attribute [local irreducible] toL
end
section
open Go Go.Proofs Go.Maps Go.RowKit
attribute [local irreducible] Qk Q9
end
section
open Go Go.Proofs Go.Maps Go.RowKit
abbrev PQ:=(Int×Int)×List Sy
def x18{good:Int×Int->Bool}{succ:Int×Int->List (Sy×(Int×Int))}{f n:Nat}{L:List PQ}(h:L[n]? =none):Zl good succ f n L=(none,L):=by
 cases f with
 |zero=>rw[Zl]
 |succ f=>rw[Zl,h]
def c01{good:Int×Int->Bool}{succ:Int×Int->List (Sy×(Int×Int))}{f n:Nat}{L:List PQ}{s:Int×Int}{w:List Sy}(h:L[n]?=some (s,w)):Zl good succ (f+1) n L=if good s=true then(some w,L)else Zl good succ f (n+1) (Ez L w (succ s)):=by rw[Zl,h]
def j0i(L:List PQ)(w:List Sy):Ez L w ([]:List (Sy×(Int×Int)))=L:=rfl
attribute [local irreducible] Pu toL Zl Ez B6 Yo Kz
end
section
open Go Go.Proofs Go.Maps Go.RowKit
instance inS_dec (a:Aut) (s:Int):Decidable (inS a s):=by unfold inS;exact inferInstance
attribute [local irreducible] Dq Kz
abbrev Yl (l:List Nat):List Int:=l.map λx:Nat=>(x:Int)
attribute [local irreducible] eqS
end
structure EqC where
 verdict:Int
 pairs:List (Int×Int)
 word:List Sy
def u2g:EqC:=⟨0,[],[]⟩
def El(a b:Aut):Int:=if Wd a≠0 then Wd a else if Wd b≠0 then Wd b else if a.types≠b.types then 15 else 0
def Yg(a b:Aut):Int:=if El a b≠0 then El a b else if Dq a≠0\/Dq b≠0 then 3 else 0
def k0y(a b:Aut):EqC×Int:=if Yg a b≠0 then(u2g,Yg a b)else match (G7 a b neB).1 with
 |some w=>(⟨2,[],w⟩,0)
 |none=>if 2048<(Yj a b).length then(u2g,5)else(⟨1,Y0 (Yj a b),[]⟩,0)
instance (a:Aut) (s:Int):Decidable (inS a s):=inferInstanceAs (Decidable (0<=s/\s<(a.fin.length:Int)))
def P0(a b:Aut)(x:EqC):Int:=if x.verdict≠1/\x.verdict≠2 then 1 else if(x.verdict=1/\0<x.word.length)\/(x.verdict=2/\0<x.pairs.length)then 3
 else if 2048<x.pairs.length\/4096<x.word.length then 5 else if x.pairs.all (λs=>decide (inS a s.1/\inS b s.2))=false then 6 else M4 a.types x.word
def q0m(a b:Aut)(x:EqC):Int:=if Yg a b≠0 then Yg a b else if P0 a b x≠0 then P0 a b x else if(if x.verdict=1 then N8 a b x.pairs else Ro a x.word != Ro b x.word)=true then 0 else 18
def R8(a b:Aut):Int:=if El a b≠0 then El a b else if(Ed a).1≠0 then(Ed a).1 else(Ed b).1
def Vz(a b:Aut):(List Sy×Bool)×Int:=if R8 a b≠0 then(([],false),R8 a b)else match (G7 (Ed a).2 (Ed b).2 neB).1 with
 |some w=>((w,true),0)
 |none=>(([],false),0)
def Tf{a b:Aut}:El a b=0↔OkA a/\OkA b/\b.types=a.types:=by
 unfold El;by_cases h1:Wd a≠0
 ·rw[if_pos h1];exact⟨λh=>absurd h h1,λh=>absurd ((Yh a).2 h.1) h1⟩
 rw[if_neg h1];by_cases h2:Wd b≠0
 ·rw[if_pos h2];exact⟨λh=>absurd h h2,λh=>absurd ((Yh b).2 h.2.1) h2⟩
 rw[if_neg h2];by_cases h3:a.types≠b.types
 ·rw[if_pos h3];exact⟨λh=>(by cases h),λh=>absurd h.2.2.symm h3⟩
 rw[if_neg h3];exact⟨λ_=>⟨(Yh a).1 (Decidable.not_not.1 h1),(Yh b).1 (Decidable.not_not.1 h2),(Decidable.not_not.1 h3).symm⟩,λ_=>rfl⟩
def Pc{a b:Aut}:Yg a b=0↔Dfa a/\Dfa b/\b.types=a.types:=by
 unfold Yg;by_cases h1:El a b≠0
 ·rw[if_pos h1];exact⟨λh=>absurd h h1,λh=>absurd (Tf.2 ⟨h.1.ok,h.2.1.ok,h.2.2⟩) h1⟩
 rw[if_neg h1];have hb:=Tf.1 (Decidable.not_not.1 h1);by_cases h2:Dq a≠0\/Dq b≠0
 ·rw[if_pos h2];exact⟨λh=>(by cases h),λh=>h2.elim (λk=>absurd ((De a).2 h.1) k) (λk=>absurd ((De b).2 h.2.1) k)⟩
 rw[if_neg h2];exact⟨λ_=>⟨(De a).1 (Decidable.not_not.1 λk=>h2 (.inl k)),(De b).1 (Decidable.not_not.1 λk=>h2 (.inr k)),hb.2.2⟩,λ_=>rfl⟩
def d1h{a b:Aut}(ha:Dta a)(hb:Dta b)(ht:b.types=a.types){wn:Bool->Bool->Bool}:(G7 a b wn).1=none↔∀v,(∀x∈v,Q8 a x)->wnd wn a b v=false:=by
 rcases Yz ha hb ht wn with⟨w,L,h1,h2⟩|⟨L,h1,_,_,_,h2⟩
 ·rw[h1];exact⟨λh=>(by cases h),λh=>by have:=h w h2.okw;rw[h2.hit]at this;cases this⟩
 rw[h1];exact⟨λ_=>h2,λ_=>rfl⟩
def f1k{a b:Aut}(ha:Dta a)(hb:Dta b)(ht:b.types=a.types){wn:Bool->Bool->Bool}{w:List Sy}(h:(G7 a b wn).1=some w):FirstP (Q8 a) (wnd wn a b) w:=by
 rcases Yz ha hb ht wn with⟨v,L,h1,h2⟩|⟨L,h1,_⟩
 ·rw[h1]at h;obtain rfl:=Option.some.inj h;exact h2
 rw[h1]at h;cases h
def u1a{a b:Aut}(ha:Dfa a)(hb:Dfa b)(ht:b.types=a.types)(hn:(G7 a b neB).1=none):(Yj a b).length<=a.fin.length * b.fin.length/\∀s∈Yj a b,inS a s.1/\inS b s.2:=by
 obtain⟨h1,_,h3⟩:=Hh ⟨ha.ok,ha.det⟩ ⟨hb.ok,hb.det⟩ ht hn;have z1:∀s∈Yj a b,inS a s.1/\inS b s.2:=λs hs=>by
  obtain⟨v,hv,e⟩:=(h3 s).1 hs;rw[U4]at e;rw[<-e];have st:∀ {c:Aut},Dfa c->∀(w:List Sy) (s:Int),inS c s->(∀x∈w,Q8 c x)->inS c (stF c s w):=λ{c} hc w=>by
   induction w with
   |nil=>intro s hs _;exact hs
   |cons x w ih=>intro s hs hw;exact ih _ (hc.next hs (hw x (by simp))).1 λy hy=>hw y (by simp[hy])
  exact⟨st ha v 0 ha.zero hv,st hb v 0 hb.zero λx hx=>(Wx ht).2 (hv x hx)⟩
 refine⟨?_,z1⟩;rw[<-Pa];exact Yw _ _ h1 λs hs=>Df (z1 s hs).1 (z1 s hs).2
section
section
variable {a b:Aut}
def j1i(hb:El a b=0):R8 a b=0\/R8 a b=5:=by
 obtain⟨h1,h2,_⟩:=Tf.1 hb;unfold R8;rw[if_neg (λk=>k hb)];by_cases h:(Ed a).1≠0
 ·rw[if_pos h];exact(q09 h1).elim (λk=>absurd k h) .inr
 rw[if_neg h];exact q09 h2
def S5(hb:El a b=0):R8 a b=0↔(Ed a).1=0/\(Ed b).1=0:=by
 unfold R8;rw[if_neg (λk=>k hb)];by_cases h:(Ed a).1≠0
 ·rw[if_pos h];exact⟨λk=>absurd k h,λk=>absurd k.1 h⟩
 rw[if_neg h];exact⟨λk=>⟨Decidable.not_not.1 h,k⟩,λk=>k.2⟩
def Uj{a:Aut}(h:(Ed a).1=0):Ed a=(0,(Ed a).2):=un h rfl
def y1c(hb:El a b=0)(ho:R8 a b=0)(wn:Bool->Bool->Bool):
  (∃w,(G7 (Ed a).2 (Ed b).2 wn).1=some w/\FirstP (Q8 a) (wnd wn a b) w)\/((G7 (Ed a).2 (Ed b).2 wn).1=none/\∀v,(∀z∈v,Q8 a z)->wnd wn a b v=false):=by
 obtain⟨h1,h2,h3⟩:=Tf.1 hb;obtain⟨d1,d2⟩:=(S5 hb).1 ho;have e:=u0n h1 h2 h3 (Uj d1) (Uj d2) wn;rcases Mg h1 h2 h3 (Uj d1) (Uj d2) wn with⟨w,L,k1,k2⟩|⟨L,k1,k2⟩
 ·exact .inl ⟨w,by rw[<-e,k1],k2⟩
 exact .inr ⟨by rw[<-e,k1],k2⟩
def Na(hb:El a b=0)(ho:R8 a b=0):(∃w,Vz a b=((w,true),0)/\FirstP (Q8 a) (wnd neB a b) w)\/(Vz a b=(([],false),0)/\∀v,(∀z∈v,Q8 a z)->Ro a v=Ro b v):=by
 unfold Vz;rw[if_neg (λk=>k ho)];rcases y1c hb ho neB with⟨w,h1,h2⟩|⟨h1,h2⟩
 ·rw[h1];exact .inl ⟨w,rfl,h2⟩
 rw[h1];refine .inr ⟨rfl,λv hv=>?_⟩;have:=h2 v hv;unfold wnd neB at this;simpa using this
def g1s(ho:R8 a b≠0):Vz a b=(([],false),R8 a b):=by unfold Vz;rw[if_pos ho]
def q05{w:List Sy}(h:FirstP (Q8 a) (wnd neB a b) w):Ro a w≠Ro b w:=by have hh:=h.hit;unfold wnd neB at hh;simpa using hh
end
end
def g00{a b:Aut}(w:List Sy):P0 a b ⟨2,[],w⟩=0↔w.length<=4096/\M4 a.types w=0:=by
 unfold P0;rw[if_neg (by simp),if_neg (by simp)];by_cases h:4096<w.length
 ·rw[if_pos (.inr h)];exact⟨λk=>(by cases k),λk=>absurd k.1 (by omega)⟩
 rw[if_neg (by simp;omega),if_neg (by simp)];exact⟨λk=>⟨by omega,k⟩,λk=>k.2⟩
def d1s{a b:Aut}(hf:Yg a b=0)(w:List Sy):q0m a b ⟨2,[],w⟩=if P0 a b ⟨2,[],w⟩≠0 then P0 a b ⟨2,[],w⟩else if Ro a w=Ro b w then 18 else 0:=by
 unfold q0m;rw[if_neg (λk=>k hf)];by_cases h:P0 a b ⟨2,[],w⟩≠0
 ·rw[if_pos h,if_pos h]
 rw[if_neg h,if_neg h];simp only;rw[if_neg (by decide:¬(2:Int)=1)];by_cases e:Ro a w=Ro b w
 ·rw[if_pos e,e];simp
 rw[if_neg e,if_pos (by simpa using e)]
def y1h{a b:Aut}(hf:Yg a b=0){l:List (Int×Int)}(hl:l.length<=2048)(z1:∀s∈l,inS a s.1/\inS b s.2):q0m a b ⟨1,l,[]⟩=if N8 a b l=true then 0 else 18:=by
 have hp:P0 a b ⟨1,l,[]⟩=0:=by
  unfold P0;rw[if_neg (by simp),if_neg (by simp),if_neg (by simp;omega),if_neg]
  ·rfl
  simp only[Bool.not_eq_false];rw[yE];exact λs hm=>decide_eq_true (z1 s hm)
 unfold q0m;rw[if_neg (λk=>k hf),if_neg (λk=>k hp)];simp only;rw[if_pos trivial]
def d2x:Prd:=[[⟨-1099511627776,1099511627776⟩]]
def f2c:Prd:=[[⟨-1099511627776,4⟩]]
def u1y:Prd:=[[⟨5,1099511627776⟩]]
def xrC:List Prd:=[f2c,u1y]
def xqQ:List (List Int):=[[0],[1]]
def c1u{a d:Aut}{C:List Prd}{Q:List (List Int)}(hk:Wd a=0)(hm:(Xu a.types (onA a)).1=0/\(Xu a.types (onA a)).2=C)(hs:Jt a C=some Q)(hd:Ux a C Q=d)(hb:V3 d=false):Ed a=(0,d):=by
 have z6:Tb a.types (onA a)=(0,C):=by rw[<-x1l];exact un hm.1 hm.2
 have z1:P1 a=(0,C,Q):=by
  rw[P1,if_neg (λk=>k hk),z6];rw[if_neg (by simp)];split
  ·rename_i h;have h2:Jt a C=none:=h;rw[hs]at h2;cases h2
  rename_i R h;have h2:Jt a C=some R:=h;rw[hs]at h2;rw[<-Option.some.inj h2]
 rw[Ed,z1,if_neg (by simp)];show Zw (Ux a C Q)=_;rw[hd,v0y,hb];rfl
def j0q{a:Aut}(ha:Dfa a):∀(w:List Sy) (s:Int),inS a s->(∀x∈w,Q8 a x)->wkS a s w=some (stF a s w)/\inS a (stF a s w)
 |[],s,hs,_=>⟨rfl,hs⟩
 |x::w,s,hs,hw=>by have h1:=(ha.next hs (hw x (by simp))).1;have h2:=j0q ha w _ h1 λy hy=>hw y (by simp[hy]);rw[wkS,if_neg (by have:=h1.1;omega)];exact h2
def y1o{a:Aut}(ha:Dfa a){w:List Sy}(hw:∀x∈w,Q8 a x):Ro a w=a.fin.getD (stF a 0 w).toNat false:=by rw[w0w ⟨ha.ok,ha.det⟩ hw];have:=(j0q ha w 0 ha.zero hw).2.1;unfold w02;rw[decide_eq_true (by omega:stF a 0 w≠ -1),Bool.true_and]
def j1n{m n:Aut}(hm:Dfa m)(hn:Dfa n)(ht:n.types=m.types){f:List Int}(h:IsoT m n f){w:List Sy}(hw:∀x∈w,Q8 m x):Ro m w=Ro n w:=by have h1:=j0q hm w 0 hm.zero hw;have z1:∀x∈w,Q8 n x:=λx hx=>(Wx ht).2 (hw x hx);have h2:=j0q hn w 0 hn.zero z1;obtain⟨k1,k2,k3⟩:=h.walk hm.ok w 0 _ hw hm.zero (by rw[h.zero];exact xC _) h1.1;rw[h.zero,h2.1]at k3;rw[y1o hm hw,y1o hn z1,h.fin _ k1 k2,Option.some.inj k3]
def d01{n:Nat}{s:Int}(h:0<=s/\s<n):fAt (Wj n) s=s:=by
 obtain⟨k,rfl⟩:=uv h.1;have hk:k<n:=by omega
 unfold fAt Wj;simp[hk]
def k1n{m:Aut}(hm:Dfa m)(hc:∀n:Nat,n<m.fin.length->∃w,(∀x∈w,Q8 m x)/\stF m 0 w=n):IsoT m m (Wj m.fin.length):=by
 have z1:∀s,inS m s->fAt (Wj m.fin.length) s=s:=λs hs=>d01 hs;refine⟨by simp[Wj],z1 0 hm.zero,λq hq=>?_,λs hs _=>by rw[z1 s hs],λs hs _ x hx=>?_,λs t hs z6 _ e=>?_,λs hs _=>?_⟩
 ·have:=(Wo.1 hq).1;omega
 ·rw[z1 s hs];exact⟨Iff.rfl,λ_=>z1 _ (hm.next hs hx).1⟩
 ·rwa [z1 s hs,z1 t z6]at e
 rw[z1 s hs];obtain⟨k,rfl⟩:=uv hs.1;obtain⟨w,hw,e⟩:=hc k (by have:=hs.2;omega);have:=(j0q hm w 0 hm.zero hw).1;rw[e]at this;exact⟨w,hw,this,this⟩
def x07{m n:Aut}(hm:Dfa m)(hn:Dfa n)(ht:n.types=m.types):v1k m n=(match q0p (c1q m n) (psP m n) (m.fin.length+1) 0 (Kn m)with|some l=>((l,true),0)|none=>(([],false),0)):=by unfold v1k;rw[if_neg (λk=>k ((Yh m).2 hm.ok)),if_neg (λk=>k ((Yh n).2 hn.ok)),if_neg (by rw[(Ao hm.ok.wfA).2 hm.det,(Ao hn.ok.wfA).2 hn.det];simp),if_neg (λk=>k ht.symm)];cases q0p (c1q m n) (psP m n) (m.fin.length+1) 0 (Kn m)<;>rfl
def v1a{m:Aut}(hm:Dfa m)(hc:∀n:Nat,n<m.fin.length->∃w,(∀x∈w,Q8 m x)/\stF m 0 w=n):v1k m m=((Wj m.fin.length,true),0):=by rw[x07 hm hm rfl,c1b hm.ok hm.ok (d0m ⟨hm.ok,hm.det⟩ ⟨hm.ok,hm.det⟩ rfl) (k1n hm hc)]
def u0z{m n:Aut}(hm:Dfa m)(hn:Dfa n)(ht:n.types=m.types){w:List Sy}(hw:∀x∈w,Q8 m x)(z1:Ro m w≠Ro n w):v1k m n=(([],false),0):=by
 rw[x07 hm hn ht];rcases w1s hm.ok hn.ok (d0m ⟨hm.ok,hm.det⟩ ⟨hn.ok,hn.det⟩ ht) (m.fin.length+1) 0 (Kn m) (by omega) (by simp) (Dt hm.ok hn.ok) (λi p hi=>by omega)with⟨g,e1,k1⟩|⟨e1,k1⟩
 ·exact absurd (j1n hm hn ht k1 hw) z1
 rw[e1]
def d1o{a b:Aut}(hf:Yg a b=0){w:List Sy}(hs:(G7 a b neB).1=some w)(hl:w.length<=4096):k0y a b=(⟨2,[],w⟩,0)/\q0m a b ⟨2,[],w⟩=0:=by obtain⟨ha,hb,ht⟩:=Pc.1 hf;have hw:=f1k ⟨ha.ok,ha.det⟩ ⟨hb.ok,hb.det⟩ ht hs;refine⟨by rw[k0y,if_neg (λk=>k hf),hs],?_⟩;rw[d1s hf,if_neg (λk=>k ((g00 w).2 ⟨hl,(C5 w).2 λx hx=>(Gv _ _).2 (hw.okw x hx)⟩)),if_neg (q05 hw)]
def k11{a b:Aut}(hf:Yg a b=0)(hs:(G7 a b neB).1=none)(hl:(Yj a b).length<=2048):k0y a b=(⟨1,Y0 (Yj a b),[]⟩,0)/\q0m a b ⟨1,Y0 (Yj a b),[]⟩=0:=by obtain⟨ha,hb,ht⟩:=Pc.1 hf;obtain⟨_,z1⟩:=u1a ha hb ht hs;have z6:(Y0 (Yj a b)).length=(Yj a b).length:=(vE _ _).length_eq;refine⟨by rw[k0y,if_neg (λk=>k hf),hs];simp only;rw[if_neg (by omega)],?_⟩;rw[y1h hf (by rw[z6];exact hl) (λs hm=>z1 s (Yt.1 hm)),if_pos (q1f ha hb ht hs)]
def v0z{a b:Aut}:∀(w:List Sy) (s t:Int),Td (E8 a b) (s,t) w=(stF a s w,stF b t w):=λw s t=>U4 ..
def z15{m:Aut}(hm:Dfa m)(hc:∀n:Nat,n<m.fin.length->∃w,(∀x∈w,Q8 m x)/\stF m 0 w=n):(G7 m m neB).1=none/\(Yj m m).length=m.fin.length:=by
 have hs:(G7 m m neB).1=none:=(d1h ⟨hm.ok,hm.det⟩ ⟨hm.ok,hm.det⟩ rfl).2 λv _=>by unfold wnd neB;simp
 obtain⟨h1,_,h3⟩:=Hh ⟨hm.ok,hm.det⟩ ⟨hm.ok,hm.det⟩ rfl hs;refine⟨hs,?_⟩;have z6:((Wj m.fin.length).map λi=>(i,i)).Nodup:=by unfold List.Nodup;rw[List.pairwise_map];exact(S6 _).imp λh e=>by have:=(Prod.ext_iff.1 e).1;simp only at this;omega
 have hp:(Yj m m).Perm ((Wj m.fin.length).map λi=>(i,i)):=(List.perm_ext_iff_of_nodup h1 z6).2 λs=>by
  rw[h3 s];constructor
  ·rintro⟨v,hv,e⟩;rw[v0z]at e;have:=(j0q hm v 0 hm.zero hv).2;rw[<-e];exact zU.2 ⟨_,Wo.2 this,rfl⟩
  intro z1;obtain⟨i,hi,rfl⟩:=zU.1 z1;have hi:=Wo.1 hi;obtain⟨k,rfl⟩:=uv hi.1;obtain⟨w,hw,e⟩:=hc k (by have:=hi.2;omega);exact⟨w,hw,by rw[v0z,e]⟩
 rw[hp.length_eq];simp[Wj]
def v00{a m:Aut}(ha:OkA a)(hm:Ab a=(0,m)):∀n:Nat,n<m.fin.length->∃w,(∀x∈w,Q8 m x)/\stF m 0 w=n:=by
 obtain⟨c,c1,c2,rfl,c4,_⟩:=G5 ha hm;exact λn hn=>by obtain⟨w,hw,e⟩:=j0l c1 c4 hn;exact⟨w,λx hx=>(Wx (Ju c)).2 (hw x hx),e⟩
def Bh{a b m n:Aut}(hb:El a b=0)(z8:a.fin.length<=8)(za:b.fin.length<=8)(hm:Ab a=(0,m))(hn:Ab b=(0,n))(ho:R8 a b=0):
  (Vz a b=(([],false),0)/\m=n/\∃L,k0y m n=(⟨1,L,[]⟩,0)/\L.length=m.fin.length/\q0m m n ⟨1,L,[]⟩=0/\v1k m n=((Wj m.fin.length,true),0))\/
  (∃w,Vz a b=((w,true),0)/\m≠n/\k0y m n=(⟨2,[],w⟩,0)/\q0m m n ⟨2,[],w⟩=0/\v1k m n=(([],false),0)):=by
 obtain⟨h1,h2,h3⟩:=Tf.1 hb;obtain⟨_,m1,m2,m3,_⟩:=Ki h1 hm;obtain⟨_,n1,n2,n3,_⟩:=Ki h2 hn;have z6:n.types=m.types:=by rw[n2,m2,h3]
 have hf:Yg m n=0:=Pc.2 ⟨m1,n1,z6⟩;have dm:Dta m:=⟨m1.ok,m1.det⟩
 have dn:Dta n:=⟨n1.ok,n1.det⟩
 have z7:∀z,Q8 m z↔Q8 a z:=λz=>Wx m2;have hw:∀v,(∀z∈v,Q8 a z)->wnd neB m n v=wnd neB a b v:=λv hv=>by unfold wnd;rw[m3 v hv,n3 v λz hz=>(Wx h3).2 (hv z hz)]
 rcases Na hb ho with⟨w,s1,s2⟩|⟨s1,s2⟩
 ·right;have zb:=q05 s2;have z1:Ro m w≠Ro n w:=by rw[m3 w s2.okw,n3 w λz hz=>(Wx h3).2 (s2.okw z hz)];exact zb
  have hd:(G7 m n neB).1=some w:=by
   rcases Yz dm dn z6 neB with⟨v,L,k1,k2⟩|⟨L,k1,_,_,_,k2⟩
   ·rw[k1,((k2.sub z7).congr hw).uniq s2]
   have:=k2 w λz hz=>(z7 z).2 (s2.okw z hz);unfold wnd neB at this;exact absurd (by simpa using this) z1
  obtain⟨d1,d2⟩:=(S5 hb).1 ho;obtain⟨e1,e2⟩:=d1o hf hd (z2x h1 h2 h3 z8 za (Uj d1) (Uj d2) s2);exact⟨w,s1,λe=>z1 (by rw[e]),e1,e2,u0z m1 n1 z6 (λz hz=>(z7 z).2 (s2.okw z hz)) z1⟩
 left;have e:m=n:=y0j h1 h2 h3 s2 hm hn;subst e;obtain⟨k1,k2⟩:=z15 m1 (v00 h1 hm);have hlen:=m1.ok.fin;obtain⟨e1,e2⟩:=k11 hf k1 (by omega);exact⟨s1,rfl,_,e1,by rw[show(Y0 (Yj m m)).length=(Yj m m).length from(vE _ _).length_eq,k2],e2,v1a m1 (v00 h1 hm)⟩
def g09:List Iv->Int->Option Int
 |[],_=>none
 |x::l,n=>if n<=x.hi then some (max x.lo n)else g09 l n
def v0k:List Iv->Int->Int
 |[],n=>n
 |x::l,n=>v0k l (if x.lo<=n/\n<=x.hi then x.hi+1 else n)
def x1k:List (List Iv)->Int->Option Int
 |[],n=>some n
 |l::I,n=>match g09 l n with|some m=>x1k I m|none=>none
def y11:List (List Iv)->Int->Int
 |[],n=>n
 |l::O,n=>y11 O (v0k l n)
def v03:∀(l:List Iv) (n:Int),Sep l->match g09 l n with|some m=>M l m/\n<=m/\∀k,M l k->n<=k->m<=k|none=>∀k,M l k->k<n
 |[],n,_=>λk h=>absurd h Mr
 |x::l,n,h=>by
  have hx:=h.1 x (by simp);have sx:=q15 h;rw[g09];by_cases h1:n<=x.hi
  ·rw[if_pos h1];refine⟨Ek.2 (.inl (by omega)),by omega,λk hk hn=>?_⟩;rcases Ek.1 hk with k1|k1
   ·omega
   have:=sx k k1;omega
  rw[if_neg h1];have ih:=v03 l n (C8 h);cases hc:g09 l n with
  |some m=>
   rw[hc]at ih;obtain⟨i1,i2,i3⟩:=ih;refine⟨Ek.2 (.inr i1),i2,λk hk hn=>?_⟩;rcases Ek.1 hk with k1|k1
   ·omega
   exact i3 k k1 hn
  |none=>
   rw[hc]at ih;intro k hk;rcases Ek.1 hk with k1|k1
   ·omega
   exact ih k k1
def Cz:∀(l:List Iv) (n:Int),n<=v0k l n/\(∀k,n<=k->¬M l k->v0k l n<=k)/\(v0k l n=n->¬M l n)
 |[],n=>⟨xC _,λk h _=>h,λ_=>Mr⟩
 |x::l,n=>by
  rw[v0k];by_cases h:x.lo<=n/\n<=x.hi
  ·rw[if_pos h];obtain⟨i1,i2,i3⟩:=Cz l (x.hi+1);refine⟨by omega,λk hk hn=>i2 k ?_ (λhm=>hn (Ek.2 (.inr hm))),λe=>by omega⟩;have:¬(x.lo<=k/\k<=x.hi):=λhm=>hn (Ek.2 (.inl hm));omega
  rw[if_neg h];obtain⟨i1,i2,i3⟩:=Cz l n;exact⟨i1,λk hk hn=>i2 k hk λhm=>hn (Ek.2 (.inr hm)),λe hm=>(Ek.1 hm).elim h (i3 e)⟩
def z01:∀(I:List (List Iv)) (n:Int),(∀l∈I,Sep l)->match x1k I n with|some m=>n<=m/\(∀k,n<=k->(∀l∈I,M l k)->m<=k)/\(m=n->∀l∈I,M l n)|none=>∀k,n<=k->¬ ∀l∈I,M l k
 |[],n,_=>⟨xC _,λk h _=>h,λ_ l h=>by cases h⟩
 |l::I,n,h=>by
  have h1:=v03 l n (h l (by simp));rw[x1k];cases hc:g09 l n with
  |none=>rw[hc]at h1;intro k hk hm;have:=h1 k (hm l (by simp));omega
  |some m=>
   rw[hc]at h1;obtain⟨a1,a2,a3⟩:=h1;have ih:=z01 I m λl hl=>h l (by simp[hl]);simp only;cases hd:x1k I m with
   |none=>rw[hd]at ih;intro k hk hm;exact ih k (a3 k (hm l (by simp)) hk) λj hj=>hm j (by simp[hj])
   |some m'=>
    rw[hd]at ih;obtain⟨b1,b2,b3⟩:=ih;refine⟨by omega,λk hk hm=>b2 k (a3 k (hm l (by simp)) hk) λj hj=>hm j (by simp[hj]),λe j hj=>?_⟩;have e1:m=n:=by omega
    rcases yO.1 hj with rfl|hj
    ·rw[<-e1];exact a1
    rw[<-e1];exact b3 (by omega) j hj
def x0v:∀(O:List (List Iv)) (n:Int),n<=y11 O n/\(∀k,n<=k->(∀l∈O,¬M l k)->y11 O n<=k)/\(y11 O n=n->∀l∈O,¬M l n)
 |[],n=>⟨xC _,λk h _=>h,λ_ l h=>by cases h⟩
 |l::O,n=>by
  rw[y11];obtain⟨h1,h2,h3⟩:=Cz l n;obtain⟨i1,i2,i3⟩:=x0v O (v0k l n);refine⟨by omega,λk hk hm=>i2 k (h2 k hk (hm l (by simp))) λj hj=>hm j (by simp[hj]),λe j hj=>?_⟩;have e1:v0k l n=n:=by omega
  rcases yO.1 hj with rfl|hj
  ·exact h3 e1
  have:=i3 (by rw[e,e1]) j hj;rw[e1]at this;exact this
def q2o(I O:List (List Iv))(n:Int):Option Int:=match x1k I n with|some m=>some (y11 O m)|none=>none
def Ht(I O:List (List Iv))(k:Int):Prop:=(∀l∈I,M l k)/\∀l∈O,¬M l k
def v1n(I O:List (List Iv))(n:Int)(h:∀l∈I,Sep l):match q2o I O n with|some m=>n<=m/\(∀k,n<=k->Ht I O k->m<=k)/\(m=n->Ht I O n)|none=>∀k,n<=k->¬Ht I O k:=by
 have h1:=z01 I n h;unfold q2o;cases hc:x1k I n with
 |none=>rw[hc]at h1;exact λk hk hg=>h1 k hk hg.1
 |some m=>
  rw[hc]at h1;obtain⟨a1,a2,a3⟩:=h1;obtain⟨b1,b2,b3⟩:=x0v O m;refine⟨by omega,λk hk hg=>b2 k (a2 k hk hg.1) hg.2,λe=>?_⟩;have e1:m=n:=by omega
  refine⟨a3 e1,?_⟩;have:=b3 (by omega);rw[e1]at this;exact this
def Dj(t:Nat)(ps:List Prd):List (List Iv):=ps.map λp=>p.getD t []
structure FitP (T:Nat) (ins outs:List Prd) (P:Prd):Prop where
 wf:PWf T P
 mem:∀t n,PM P t n↔t<T/\inR n/\(∀p∈ins,PM p t n)/\∀p∈outs,¬PM p t n
def Z6{ins outs:List Prd}{t:Nat}{n:Int}:Ht (Dj t ins) (Dj t outs) n↔(∀p∈ins,PM p t n)/\∀p∈outs,¬PM p t n:=by
 unfold Ht Dj;constructor
 ·rintro⟨h1,h2⟩;exact⟨λp hp=>Ut.2 (h1 _ (zU.2 ⟨p,hp,rfl⟩)),λp hp hm=>h2 _ (zU.2 ⟨p,hp,rfl⟩) (Ut.1 hm)⟩
 rintro⟨h1,h2⟩;refine⟨λl hl=>?_,λl hl hm=>?_⟩
 ·obtain⟨p,hp,rfl⟩:=zU.1 hl;exact Ut.1 (h1 p hp)
 obtain⟨p,hp,rfl⟩:=zU.1 hl;exact h2 p hp (Ut.2 hm)
def V7(P:Prd):Option Sy:=if Wp P then none else some (Qk P)
def FitP.some{T:Nat}{ins outs:List Prd}{P:Prd}(h:FitP T ins outs P){t:Nat}{n:Int}(ht:t<T)(hb:∀t',t'<t->∀k,¬PM P t' k)(hn:inR n)(hg:Ht (Dj t ins) (Dj t outs) n)(hl:∀k,inR k->Ht (Dj t ins) (Dj t outs) k->n<=k):V7 P= .some ⟨t,n⟩:=by
 have hm:PM P t n:=(h.mem t n).2 ⟨ht,hn,Z6.1 hg⟩;obtain⟨g1,g2,g3⟩:=Tv h.wf ⟨t,n,hm⟩;unfold V7;rw[if_neg (by rw[(Rs h.wf).2 ⟨t,n,hm⟩];simp)]
 congr 1
 rcases g3 ⟨t,n⟩ ⟨by simp,by simpa using ht,hn⟩ (by simpa using hm)with e|e
 ·exact e
 exfalso;have k:=(h.mem _ _).1 g2;rcases e with e|⟨e1,e2⟩
 ·simp only at e;exact hb _ (by have:=g1.1;omega) _ g2
 simp only at e1 e2;have e3:(Qk P).ty.toNat=t:=by omega
 rw[e3]at k;have:=hl _ k.2.1 (Z6.2 k.2.2);omega
def FitP.none{T:Nat}{ins outs:List Prd}{P:Prd}(h:FitP T ins outs P)(hb:∀t',t'<T->∀k,¬PM P t' k):V7 P= .none:=by unfold V7;rw[if_pos ((Rn h.wf).2 λt n hm=>hb t (h.wf.lt hm).1 n hm)]
def FitP.no{T:Nat}{ins outs:List Prd}{P:Prd}(h:FitP T ins outs P){t:Nat}(hb:∀k,inR k->¬Ht (Dj t ins) (Dj t outs) k)(k:Int):¬PM P t k:=λhm=>by have:=(h.mem t k).1 hm;exact hb k this.2.1 (Z6.2 this.2.2)
def Ls:Option Mv->List Prd
 |some m=>[m.on]
 |none=>[]
def A2(a:Aut)(s:Int):Option Mv->List Prd
 |some _=>[]
 |none=>(mvS a s).map (·.on)
def w0v{a:Aut}(h:OkA a){s:Int}{o:Option Mv}(ho:o∈Wl a s):FitP a.types.toNat (Ls o) (A2 a s o) (q0o a s o):=by
 have hw:=Ce h ho;refine⟨hw,λt n=>?_⟩;cases o with
 |some m=>
  constructor
  ·intro hm;exact⟨(hw.lt hm).1,(hw.lt hm).2,λp hp=>by rw[zV.1 hp];exact hm,λp hp=>by cases hp⟩
  rintro⟨_,_,h1,_⟩;exact h1 m.on (zV.2 rfl)
 |none=>
  unfold q0o A2 Ls;rw[Gi (P4 (Hj h s)),Fp (Hj h s)];constructor
  ·rintro⟨⟨h1,h2⟩,h3⟩;exact⟨h1,h2,λp hp=>(by cases hp),λp hp hm=>h3 ⟨p,hp,hm⟩⟩
  rintro⟨h1,h2,_,h3⟩;exact⟨⟨h1,h2⟩,λ⟨p,hp,hm⟩=>h3 p hp hm⟩
def x28{a b:Aut}(ha:OkA a)(hb:OkA b)(ht:b.types=a.types){s:Int×Int}{o r:Option Mv}(ho:o∈Wl a s.1)(hr:r∈Wl b s.2):FitP a.types.toNat (Ls o++Ls r) (A2 a s.1 o++A2 b s.2 r) (q0z a b s o r):=by
 have f1:=w0v ha ho;have f2:=w0v hb hr;rw[ht]at f2;refine⟨Ry f1.wf f2.wf.1,λt n=>?_⟩;unfold q0z;rw[Ea f1.wf.1 f2.wf.1,f1.mem,f2.mem];constructor
 ·rintro⟨⟨h1,h2,h3,h4⟩,_,_,h5,h6⟩;exact⟨h1,h2,λp hp=>(yB.1 hp).elim (h3 p) (h5 p),λp hp=>(yB.1 hp).elim (h4 p) (h6 p)⟩
 rintro⟨h1,h2,h3,h4⟩;exact⟨⟨h1,h2,λp hp=>h3 p (xB _ hp),λp hp=>h4 p (xB _ hp)⟩,h1,h2,λp hp=>h3 p (vP _ hp),λp hp=>h4 p (vP _ hp)⟩
def f1l(a b:Aut)(s:Int×Int)(o r:Option Mv):k1c a b s o r=(V7 (q0z a b s o r)).map λx=>(x,(Dl o,Dl r)):=by
 unfold k1c V7;by_cases h:Wp (q0z a b s o r)=true
 ·rw[if_pos h,if_pos h];rfl
 rw[if_neg h,if_neg h];rfl
def Nh(a:Aut)(s:Int):Bool:=(V7 (q0o a s none)).isSome
def K1(a:Aut):Bool:=Hq a && (Wj a.fin.length).all λs=> !Nh a s
def x0o{a:Aut}(h:OkA a)(s:Int):Nh a s=false↔∀x,Q8 a x->∃m∈mvS a s,Ti m.on x=true:=by
 have hw:=Ce h (s:=s) (Ij.2 (.inl rfl));unfold Nh V7;constructor
 ·intro hl x hx;have hv:Wp (q0o a s none)=true:=by
   by_cases hv:Wp (q0o a s none)=true
   ·exact hv
   rw[if_neg hv]at hl;cases hl
  have h1:=(Rn hw).1 hv x.ty.toNat x.num;have h2:¬ ∀m∈mvS a s,Ti m.on x=false:=λk=>h1 ((O7 h s hx).2 k);simpa using h2
 intro z1;rw[if_pos]
 ·rfl
 refine(Rn hw).2 λt n hm=>?_;have z6:=hw.lt hm;have hx:Q8 a ⟨t,n⟩:=Tr.1 ⟨by simp,by simpa using z6.1,z6.2⟩;obtain⟨m,h1,h2⟩:=z1 _ hx;have:=(O7 h s hx).1 (by unfold g04;simpa using hm) m h1;rw[h2]at this;cases this
def z1u{a:Aut}(h:OkA a):K1 a=true↔Dfa a:=by
 unfold K1;rw[Bool.and_eq_true,yE];constructor
 ·rintro⟨h1,h2⟩;refine⟨h,(Ao h.wfA).1 h1,λs s0 s1 x hx=>?_⟩;obtain⟨m,k1,k2⟩:=(x0o h s).1 (by have:=h2 s (Wo.2 ⟨s0,s1⟩);simpa using this) x hx;exact⟨m,(R0.1 k1).1,(R0.1 k1).2,k2⟩
 intro hd;refine⟨(Ao h.wfA).2 hd.det,λs hs=>?_⟩;have hs:=Wo.1 hs;have:=(x0o h s).2 λx hx=>by obtain⟨m,k1,k2,k3⟩:=hd.full s hs.1 hs.2 x hx;exact⟨m,R0.2 ⟨k1,k2⟩,k3⟩
 rw[this];rfl
def g0p(a b:Aut):Yg a b=if El a b≠0 then El a b else if K1 a=false\/K1 b=false then 3 else 0:=by
 unfold Yg;by_cases h1:El a b≠0
 ·rw[if_pos h1,if_pos h1]
 rw[if_neg h1,if_neg h1];obtain⟨ha,hb,_⟩:=Tf.1 (Decidable.not_not.1 h1);have e:∀ {c:Aut},OkA c->(K1 c=false↔Dq c≠0):=λ{c} hc=>by rw[<-Bool.not_eq_true,z1u hc,<-De]
 by_cases h2:Dq a≠0\/Dq b≠0
 ·rw[if_pos h2,if_pos (h2.imp (e ha).2 (e hb).2)]
 rw[if_neg h2,if_neg (λk=>h2 (k.imp (e ha).1 (e hb).1))]
structure Vst where
 s:Int×Int
 fr:Nat
 on:Sy
 fst:Bool
structure VOk (V:List Vst) (L:List ((Int×Int)×List Sy)):Prop where
 len:V.length=L.length
 key:∀(i:Nat) (v:Vst) (e:(Int×Int)×List Sy),V[i]?=some v->L[i]?=some e->v.s=e.1
 way:∀(i:Nat) (v:Vst) (e:(Int×Int)×List Sy),V[i]?=some v->L[i]?=some e->(v.fst=true/\e.2=[])\/(v.fst=false/\v.fr<i/\∃e',L[v.fr]?=some e'/\e.2=e'.2++[v.on])
def VOk.start:VOk [⟨(0,0),0,⟨0,0⟩,true⟩] [((0,0),[])]:=by
 refine⟨rfl,λi v e hv he=>?_,λi v e hv he=>?_⟩
 ·have hi:i=0:=by have:=(zE.1 hv).1;simp at this;omega
  subst hi;simp at hv he;rw[<-hv,<-he]
 have hi:i=0:=by have:=(zE.1 hv).1;simp at this;omega
 subst hi;simp at hv he;rw[<-hv,<-he];exact .inl ⟨rfl,rfl⟩
def VOk.push{V:List Vst}{L:List ((Int×Int)×List Sy)}(h:VOk V L){n:Nat}{e:(Int×Int)×List Sy}(hn:L[n]?=some e)(t:Int×Int)(x:Sy):VOk (V++[⟨t,n,x,false⟩]) (L++[(t,e.2++[x])]):=by
 have z6:=(zE.1 hn).1;have hl:=h.len;refine⟨by simp[hl],λi v d hv hd=>?_,λi v d hv hd=>?_⟩
 ·by_cases hi:i<L.length
  ·rw[zI (by omega)]at hv hd;exact h.key i v d hv hd
  have z1:i=L.length:=by have:=(zE.1 hd).1;simp at this;omega
  rw[zO (by omega),z1]at hv hd;simp[hl]at hv hd;rw[<-hv,<-hd]
 by_cases hi:i<L.length
 ·rw[zI (by omega)]at hv hd;rcases h.way i v d hv hd with k|⟨k1,k2,e',k3,k4⟩
  ·exact .inl k
  exact .inr ⟨k1,k2,e',by rw[zI (by omega)];exact k3,k4⟩
 have z1:i=L.length:=by have:=(zE.1 hd).1;simp at this;omega
 rw[zO (by omega),z1]at hv hd;simp[hl]at hv hd;rw[<-hv,<-hd];exact .inr ⟨rfl,by simp;omega,e,by rw[zI z6];exact hn,rfl⟩
def VOk.pairs{V:List Vst}{L:List ((Int×Int)×List Sy)}(h:VOk V L):V.map (·.s)=L.map (·.1):=by
 refine List.ext_getElem (by simp[h.len]) λi h1 h2=>?_;have hl:i<L.length:=by simpa using h2
 have hv:i<V.length:=by rw[h.len];exact hl
 simp only[List.getElem_map];exact h.key i _ _ (zP hv) (zP hl)
structure DInv (a b:Aut) (L:List ((Int×Int)×List Sy)):Prop where
 nd:(L.map (·.1)).Nodup
 rng:∀e∈L,inD a e.1.1/\inD b e.1.2
def DInv.len{a b:Aut}{L:List ((Int×Int)×List Sy)}(h:DInv a b L):L.length<=(a.fin.length+1) * (b.fin.length+1):=by
 have e:L.length=(L.map (·.1)).length:=by rw[yL]
 rw[<-Jh,e];refine Yw _ _ h.nd λx hx=>?_;obtain⟨e,he,rfl⟩:=zU.1 hx;exact Hg (h.rng e he).1 (h.rng e he).2
def DInv.add{a b:Aut}{L:List ((Int×Int)×List Sy)}(h:DInv a b L){t:Int×Int}{w:List Sy}(ht:inD a t.1/\inD b t.2)(hn:t∉L.map (·.1)):DInv a b (L++[(t,w)]):=by
 refine⟨?_,λe he=>?_⟩
 ·rw[xA,List.nodup_append];refine⟨h.nd,by simp,λx hx y hy e=>?_⟩;simp only[List.map_cons,List.map_nil,zV]at hy;exact hn (by rw[<-hy,<-e];exact hx)
 rcases yB.1 he with he|he
 ·exact h.rng e he
 rw[zV.1 he];exact ht
def DInv.start{a b:Aut}(ha:OkA a)(hb:OkA b):DInv a b [((0,0),[])]:=by have:=ha.fin;have:=hb.fin;exact⟨by simp,λe he=>by rw[zV.1 he];exact⟨.inr ⟨xC _,by simp only;omega⟩,.inr ⟨xC _,by simp only;omega⟩⟩⟩
def z1n{a b:Aut}(ha:Dta a)(hb:Dta b)(ht:b.types=a.types){s:Int×Int}{e:Sy×(Int×Int)}(he:e∈Ic a b s):inD a e.2.1/\inD b e.2.2:=by obtain⟨_,h2⟩:=(Si ha hb ht s).mem e he;rw[h2];exact⟨Lq ha.ok _ _,Lq hb.ok _ _⟩
def adQ(l:List (Int×Int))(t:Int×Int):List (Int×Int):=if t∈l then l else l++[t]
def k26{l:List (Int×Int)}{t:Int×Int}(h:t∈l):adQ l t=l:=if_pos h
def w2i{l:List (Int×Int)}{t:Int×Int}(h:t∉l):adQ l t=l++[t]:=if_neg h
def y2s{l:List (Int×Int)}{t s:Int×Int}:s∈adQ l t↔s∈l\/s=t:=by
 unfold adQ;by_cases h:t∈l
 ·rw[if_pos h];exact⟨.inl,λk=>k.elim id λe=>e▸h⟩
 rw[if_neg h,yB,zV]
def Br{s:Int×Int}:∀(ys l:List (Int×Int)),s∈ys.foldl adQ l↔s∈l\/s∈ys
 |[],l=>by simp
 |y::ys,l=>by
  rw[xX,Br ys,y2s,yO];constructor
  ·rintro((h|h)|h)
   ·exact .inl h
   ·exact .inr (.inl h)
   exact .inr (.inr h)
  rintro(h|h|h)
  ·exact .inl (.inl h)
  ·exact .inl (.inr h)
  exact .inr h
end Go.Abs
