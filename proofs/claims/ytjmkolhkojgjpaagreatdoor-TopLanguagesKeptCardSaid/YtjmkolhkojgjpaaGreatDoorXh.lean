/- Part Xh of the proof: steps on the way to the last part. No condition. -/
import Derived.Test.YtjmkolhkojgjpaaGreatDoorXg
import Derived.Test.YtjmkolhkojgjpaaGreatDoorXc
import Derived.Test.YtjmkolhkojgjpaaGreatDoorXd
import Derived.Test.YtjmkolhkojgjpaaGreatDoorXf
import Derived.Test.YtjmkolhkojgjpaaGreatDoorXe
set_option linter.all false
open List renaming range->yU,take_length->yI,getElem?_eq_getElem->zI,take_succ_eq_append_getElem->zU,range_succ->wU,length_cons->yW,length_take->xV,length_append->zW,mem_of_getElem?->zJ,mem_append->zT,mem_singleton->zO,mem_or_eq_of_mem_set->ua,mem_of_mem_take->xX,getD->yQ,getElem_mem->zL,getElem?_append_right->zH,getElem?_set_self->zK,getElem?_set_ne->zE,append_assoc->xQ,getElem?_append_left->zF,mem_cons->zX,not_mem_nil->ub,map_append->yR,length_map->yO,append_nil->xG,mem_append_left->yV,take_of_length_le->zV,ext_getElem->xZ,getElem_map->uA,mem_map->zQ,mem_append_right->vI,getElem?_eq_some_iff->zB
open Prod renaming ext->vY
open Int renaming le_refl->xK
set_option maxHeartbeats 8000000
set_option linter.unusedSimpArgs false
set_option maxRecDepth 100000
open Go.Proofs.Tryz
namespace Go.Abs
section
open Go Go.Proofs Go.Maps Go.RowKit
def B1{a:Aut}(h:(Pn a).1=0):OkA a/\∃cl Q,Pn a=(0,cl,Q)/\Jm a cl=some Q/\Cls a cl/\Sub a cl Q/\cl.length<=256/\∀c∈cl,Pk [c]=0/\Wj c=false/\Wb a (Ql c)/\PWf a.types.toNat c/\∀s∈c,s.length<=256:=by
 have h0:Wo a=0:=by
  by_cases h0:Wo a=0
  ·exact h0
  rw[w0q h0]at h;exact absurd h h0
 have z1:=(Ud a).1 h0;have hm:(R9 a.types (onA a)).1=0:=by
  by_cases hm:(R9 a.types (onA a)).1=0
  ·exact hm
  rw[Pn,if_neg (λk=>k h0),if_pos hm]at h;exact absurd h hm
 obtain⟨cl,h1,h2,h3,h4⟩:=N9 z1 hm;refine⟨z1,cl,?_⟩;rcases Hg z1 with h5|⟨Q,h5,h6,h7,h8⟩
 ·rw[h5]at h;simp at h
 have z6:Q5 a.types.toNat (onA a)=cl:=by
  have h9:(Pn a).2.1=cl:=by
   rw[Pn,if_neg (λk=>k h0),if_neg (λk=>k hm),h1];split
   ·rename_i hn;rw[Pn,if_neg (λk=>k h0),if_neg (λk=>k hm),h1]at h;simp only[hn]at h;simp at h
   rfl
  rw[h5]at h9;exact h9
 rw[z6]at h5 h6 h7 h8;exact⟨Q,h5,h6,h2,h7,h3,h4⟩
def y22(H:List AObj)(id:Nat)(a:Aut)(hid:H[id]?=some (.vars (Qk a)))(s:Int)(h0:0<=s)(h1:s<a.fin.length):FC prog 48 [.i s,.vptr id 0] H (λr H'=>r= .bool (a.fin.getD s.toNat false)/\H'=H):=by
 refine fcB func48 results48 ntmps48 ?_;simp only[Qf];have h2:s.toNat<a.fin.length:=by omega
 repeat(refine s_ ?_;simp[hid,h0,h1,h2])
def stepG(a:Aut)(Q:List (List Int))(n:Nat)(l:List Int)(g:List Mv)(c:Prd):List Mv:=match j0h Q (Qy a l (Ql c))with|some t=>Tx n g t c|none=>g
def E8(a:Aut)(cl:List Prd)(Q:List (List Int))(n:Nat)(l:List Int)(k:Nat):List Mv:=(cl.take k).foldl (stepG a Q n l) []
def Fv(a:Aut)(cl:List Prd)(Q:List (List Int))(n:Nat):List Mv:=(yU n).flatMap λn=>Mq a cl Q n (Q.getD n [])
def J7(a:Aut)(cl:List Prd)(Q:List (List Int))(n:Nat)(l:List Int):E8 a cl Q n l cl.length=Mq a cl Q n l:=by rw[E8,yI];rfl
def q0j(a:Aut)(cl:List Prd)(Q:List (List Int))(n:Nat)(l:List Int){k:Nat}{c:Prd}(h:cl[k]?=some c):E8 a cl Q n l (k+1)=stepG a Q n l (E8 a cl Q n l k) c:=by
 have hk:=Uz h;have hc:cl[k]=c:=by rw[zI hk]at h;exact Option.some.inj h
 rw[E8,zU hk,List.foldl_append,hc];rfl
def Vt(a:Aut)(cl:List Prd)(Q:List (List Int))(n:Nat):Fv a cl Q (n+1)=Fv a cl Q n++Mq a cl Q n (Q.getD n []):=by simp[Fv,wU]
def q1e(n:Nat)(g:List Mv)(to:Nat)(c:Prd):(Tx n g to c).length<=g.length+1:=by
 unfold Tx;split
 ·simp
 split<;>simp
def Mi(a:Aut)(Q:List (List Int))(n:Nat)(l:List Int):∀(cl:List Prd) (g:List Mv),(cl.foldl (stepG a Q n l) g).length<=g.length+cl.length
 |[],g=>by simp
 |c::cl,g=>by
  have h1:=Mi a Q n l cl (stepG a Q n l g c);have h2:(stepG a Q n l g c).length<=g.length+1:=by
   unfold stepG;split
   ·exact q1e _ _ _ _
   omega
  rw[List.foldl_cons,yW];omega
def Gw(a:Aut)(cl:List Prd)(Q:List (List Int))(n:Nat)(l:List Int)(hc:cl.length<=256)(k:Nat):(E8 a cl Q n l k).length<=256:=by have:=Mi a Q n l (cl.take k) [];rw[xV]at this;rw[E8];simp at this;omega
def j1w(a:Aut)(cl:List Prd)(Q:List (List Int))(hq:Q.length<=256)(hc:cl.length<=256):∀n,n<Q.length->(Fv a cl Q n).length<=n * 256/\(Fv a cl Q n).length<=65536:=by
 have:∀n,(Fv a cl Q n).length<=n * 256:=λn=>by
  induction n with
  |zero=>simp[Fv]
  |succ n ih=>
   have h:=Gw a cl Q n (Q.getD n []) hc cl.length;rw[J7]at h;have:Fv a cl Q (n+1)=Fv a cl Q n++Mq a cl Q n (Q.getD n []):=by simp[Fv,wU]
   rw[this,zW];omega
 exact λn hn=>⟨this n,by have:=this n;omega⟩
def k02(a:Aut)(cl:List Prd)(Q:List (List Int))(n:Nat)(l:List Int):E8 a cl Q n l 0=[]:=rfl
def k1d{a:Aut}{Q:List (List Int)}(z1:∀l∈Q,l≠[]){n:Nat}{l:List Int}{g:List Mv}{c:Prd}(h:Qy a l (Ql c)=[]):stepG a Q n l g c=g:=by
 unfold stepG;rw[h];cases hq:j0h Q []with
 |none=>rfl
 |some t=>exact absurd rfl (z1 _ (zJ (J8 hq)))
def q1a{a:Aut}{Q:List (List Int)}(hn:Q.Nodup){n t:Nat}{l:List Int}{g:List Mv}{c:Prd}(h:Q[t]?=some (Qy a l (Ql c))):stepG a Q n l g c=Tx n g t c:=by unfold stepG;rw[j07 hn h]
def x14{T n to:Nat}{g:List Mv}{c:Prd}(hg:∀m∈g,PWf T m.on)(hc:PWf T c):∀m∈Tx n g to c,PWf T m.on:=by
 intro m hm;unfold Tx at hm;split at hm
 ·rcases zT.1 hm with hm|hm
  ·exact hg m hm
  rw[zO.1 hm];exact hc
 split at hm
 ·rename_i m2 z1;rcases ua hm with hm|rfl
  ·exact hg m hm
  exact G6 (hg _ (zJ z1)) hc
 exact hg m hm
def x10{a:Aut}{T:Nat}{Q:List (List Int)}{n:Nat}{l:List Int}{cl:List Prd}(z1:∀c∈cl,PWf T c):∀k,∀m∈E8 a cl Q n l k,PWf T m.on:=by
 have:∀(cl:List Prd) (g:List Mv),(∀c∈cl,PWf T c)->(∀m∈g,PWf T m.on)->∀m∈cl.foldl (stepG a Q n l) g,PWf T m.on:=by
  intro cl;induction cl with
  |nil=>intro g _ hg;exact hg
  |cons c cl ih=>
   intro g hc hg;refine ih _ (λx hx=>hc x (by simp[hx])) λm hm=>?_;unfold stepG at hm;split at hm
   ·exact x14 hg (hc c (by simp)) m hm
   exact hg m hm
 exact λk=>this _ _ (λc hc=>z1 c (xX hc)) (λm hm=>by simp at hm)
def AObj.isLp:AObj->Bool
 | .lp .. =>true
 |_=>false
def q25{T:Nat}{c:Prd}(hw:PWf T c)(hz:∀s∈c,s.length<=256){i:Nat}(hi:i<T):(Qv [c] i).length<=1000000:=by
 have h:i<c.length:=by rw[hw.1];exact hi
 have:Qv [c] i=c[i]:=by simp[Qv,yQ,h]
 rw[this];have:=hz _ (zL h);omega
def c10{T:Nat}{p c:Prd}(hp:PWf T p)(hw:PWf T c)(h1:∀s∈p,s.length<=65536)(hz:∀s∈c,s.length<=256){i:Nat}(hi:i<T):(Qv [p,c] i).length<=1000000:=by
 have h:i<c.length:=by rw[hw.1];exact hi
 have h2:i<p.length:=by rw[hp.1];exact hi
 have:Qv [p,c] i=p[i]++c[i]:=by simp[Qv,yQ,h,h2]
 rw[this,zW];have:=hz _ (zL h);have:=h1 _ (zL h2);omega
def x1t(a:Aut)(cl:List Prd)(Q:List (List Int)):Fv a cl Q Q.length=(Uh a cl Q).mv:=rfl
def z0u(a:Aut)(cl:List Prd)(Q:List (List Int)):(Uh a cl Q).fin=Q.map (O9 a):=rfl
def k0j(a:Aut)(cl:List Prd)(Q:List (List Int)):(Uh a cl Q).types=a.types:=rfl
def y00(d:Aut):La d=if Vn d then(5,Ty)else(0,d):=rfl
def w1x(a:Aut)(cl:List Prd)(Q:List (List Int))(hq:Q.length<=256)(hc:cl.length<=256):(Fv a cl Q Q.length).length<=65536:=by
 have:∀n,(Fv a cl Q n).length<=n * 256:=λn=>by
  induction n with
  |zero=>simp[Fv]
  |succ n ih=>have h:=Gw a cl Q n (Q.getD n []) hc cl.length;rw[J7]at h;rw[Vt,zW];omega
 have:=this Q.length;omega
def g0e{p c:Prd}{A B:Nat}(hp:∀s∈p,s.length<=A)(hc:∀s∈c,s.length<=B):∀s∈Ro p c,s.length<=A+B:=by intro s hs;obtain⟨i,hi,rfl⟩:=List.getElem_of_mem hs;simp only[Ro,List.length_zipWith]at hi;simp only[Ro,List.getElem_zipWith];refine Nat.le_trans (z0a _) ?_;rw[zW];have h1:=hp _ (zL (by omega:i<p.length));have h2:=hc _ (zL (by omega:i<c.length));omega
def j10{a:Aut}{Q:List (List Int)}{n:Nat}{l:List Int}{cl:List Prd}(z6:∀c∈cl,∀s∈c,s.length<=256)(z8:cl.length<=256):∀k,∀m∈E8 a cl Q n l k,∀s∈m.on,s.length<=65536:=by
 have key:∀(cl:List Prd) (g:List Mv) (B:Nat),(∀c∈cl,∀s∈c,s.length<=256)->(∀m∈g,∀s∈m.on,s.length<=B)->∀m∈cl.foldl (stepG a Q n l) g,∀s∈m.on,s.length<=B+cl.length * 256:=by
  intro cl;induction cl with
  |nil=>intro g B _ hg m hm s hs;have:=hg m hm s hs;simp;omega
  |cons c cl ih=>
   intro g B hc hg m hm s hs;have h1:∀m∈stepG a Q n l g c,∀s∈m.on,s.length<=B+256:=by
    intro m hm s hs;have z1:=hc c (by simp);unfold stepG Tx at hm;split at hm
    ·split at hm
     ·rcases zT.1 hm with hm|hm
      ·have:=hg m hm s hs;omega
      rw[zO.1 hm]at hs;have:=z1 s hs;omega
     split at hm
     ·rename_i m2 z7;rcases ua hm with hm|rfl
      ·have:=hg m hm s hs;omega
      exact g0e (hg _ (zJ z7)) z1 s hs
     have:=hg m hm s hs;omega
    have:=hg m hm s hs;omega
   have:=ih (stepG a Q n l g c) (B+256) (λx hx=>hc x (by simp[hx])) h1 m hm s hs;rw[yW];omega
 intro k m hm s hs;have:=key (cl.take k) [] 0 (λc hc=>z6 c (xX hc)) (λm hm=>by simp at hm) m hm s hs;rw[xV]at this;have:min k cl.length<=256:=by omega
 omega
def B6(a:Aut)(cl:List Prd)(Q:List (List Int)):Fv a cl Q 0=[]:=rfl
attribute [local irreducible] Pn Qy Ql mpT R8 La Uh Fv E8 stepG O9 Vn
def Ex(a:Aut):PC prog 15 [encA a] (λr=>r= .tup [encA (Wv a).2,.i (Wv a).1]):=by
 refine pcB func15 results15 ntmps15 ?_;simp only[Qf];simp only[encA];repeat(refine s_ ?_;simp)
 have yd:=u0f [.vars (Qk a),.vars [.i 0,.nils,.nils]] a;refine Qu rfl rfl yd rfl ?_;rintro res H' ⟨hk,⟨he,rfl⟩|⟨he,r,p,m,rfl,ht,hr,hp,hm⟩⟩
 ·have hd:Wv a=((Pn a).1,Ty):=by rw[Wv,if_pos he]
  rw[hd];have k0:=hk 0 (by simp);have k1:=hk 1 (by simp);simp at k0 k1;simp;repeat(refine s_ ?_;simp[Qa k1])
  refine Qb rfl (λ_=>?_) (λh=>by simp at h;exact absurd h he);have k2:∀L Y,((H'++L).set 1 Y)[1]?=some Y:=λL Y=>Qg (Qa k1 L) Y;repeat(refine s_ ?_;simp[Qa k1,k2])
  exact⟨rfl,rfl,rfl⟩
 obtain⟨zn,cl,Q,x6,vr,xx,z8,zd,zo⟩:=B1 he;have hd:Wv a=La (Uh a cl Q):=by rw[Wv,x6];simp
 rw[hd];rw[x6]at ht;simp only at ht;have k0:=hk 0 (by simp);have k1:=hk 1 (by simp);simp at k0 k1;have xy:=ht.t;have vt:=ht.s;simp;repeat(refine s_ ?_;simp[Qa k1])
 refine Qb rfl (λh=>by simp[he]at h) (λ_=>?_);have k0a:∀(L:List AObj) hh,(H'++L)[0]'hh= .vars (Qk a):=λL hh=>by have:=Qa k0 L;rw[zI hh]at this;exact Option.some.inj this
 have ye:=λL=>Qa (G:=L) xy;repeat(refine s_ ?_;simp[Qa k0,k0a,ye])
 have xz:=Qe ht.t;have w8:=Qe ht.s;have wa:=Qe ht.n;refine Qn (sl':=[(1,.vptr 0 0),(2,.vptr 1 0),(3,.i 0),(4,.vptr H'.length 0),(6,.vptr (H'.length+1) 0),(30,.sl p 1 0 Q.length),(31,.i Q.length),(32,.i (0:Nat))]) ?_ (by simp);refine Ep (H'.length+1) 1 4 1 (xs:=[.i a.types,.nils,.nils]) (by rw[zH (by omega)];simp) rfl ?_;refine Q4 λZ1 zp=>?_;have z1l:Z1.length=H'.length+3:=by rw[zp];simp
 have z1c:Z1[H'.length+1]?=some (.vars [.i a.types,.sl (H'.length+2) 1 0 0,.nils]):=by rw[zp,zK (by simp)];simp
 have z1f:Z1[H'.length+2]?=some (.arr 4 1 []):=by rw[zp,zE (by omega),zH (by simp)];simp
 have z1b:Z1[H'.length]?=some (.vars [.vptr r 0]):=by rw[zp,zE (by omega),xQ,zH (by omega)];simp
 have z1k:∀i,i<H'.length->Z1[i]? =H'[i]? :=λi hi=>by rw[zp,zE (by omega),xQ,zF hi]
 clear zp;refine Ep (H'.length+1) 2 73 3 z1c rfl ?_;refine Q4 λZ2 y6=>?_;have z2c:Z2[H'.length+1]?=some (.vars [.i a.types,.sl (H'.length+2) 1 0 0,.sl (H'.length+3) 3 0 0]):=by rw[y6,zK (by simp;omega)];simp[z1l]
 have z2v:Z2[H'.length+3]?=some (.arr 73 3 []):=by rw[y6,zE (by omega),zH (by omega)];simp[z1l]
 have z2k:∀i,i<Z1.length->i≠H'.length+1->Z2[i]? =Z1[i]? :=λi hi wb=>by rw[y6,zE (Ne.symm wb),zF hi]
 clear y6;have hb:=(z2k _ (by omega) (by omega)).trans z1b;have x7:=(z2k _ (by omega) (by omega)).trans z1f;have hold:∀i,i<H'.length->Z2[i]? =H'[i]? :=λi hi=>(z2k i (by omega) (by omega)).trans (z1k i hi);have x8:=(hold 0 (Qe k0)).trans k0;have x9:=(hold 1 (Qe k1)).trans k1;obtain⟨zh,z7⟩:∃zh:List (Nat×AObj),zh=[(0,.vars (Qk a)),(1,.vars [.i 0,.nils,.nils]),(H'.length,.vars [.vptr r 0]),(r,.vars [.i a.types,.list (a.fin.map .bool),.list (a.mv.map encMv),LP cl,.sl p 1 0 Q.length,.mref m]),(p,.arr 47 1 (LQ Q)),(m,mpT (Q.map R8))]:=⟨_,rfl⟩
 have xa:Fx zh Z2:=by
  rw[z7];intro x hx;simp only[zX,ub,or_false]at hx;rcases hx with rfl|rfl|rfl|rfl|rfl|rfl
  ·exact x8
  ·exact x9
  ·exact hb
  ·exact(hold r xz).trans ht.t
  ·exact(hold p w8).trans ht.s
  exact(hold m wa).trans ht.n
 have we:=z8.lim;have xb:∀x∈Q,Ap x:=λx hx=>by have he:=z8.elem x hx;have:=w0b he.1 he.2;have:=zn.fin;exact⟨z8.ne x hx,by omega,λz hz=>by have:=he.2 z hz;omega⟩
 have wg:=zn.fin;generalize H'.length+1=c at *;generalize H'.length=b at *;refine Qj (Qc (sl':=[(1,.vptr 0 0),(2,.vptr 1 0),(3,.i 0),(4,.vptr b 0),(6,.vptr c 0),(30,.sl p 1 0 Q.length),(31,.i Q.length),(32,.i (0:Nat))]) ?_ (by simp))
 refine Qi (F:=λ(u:Nat×Nat×Nat×List AObj)=>⟨[(1,.vptr 0 0),(2,.vptr 1 0),(3,.i 0),(4,.vptr b 0),(6,.vptr c 0),(30,.sl p 1 0 Q.length),(31,.i Q.length),(32,.i u.1)],u.2.2.2⟩)
  (λu=>u.1<=Q.length/\Fx zh u.2.2.2/\u.2.2.2[c]?=some (.vars [.i a.types,.sl u.2.1 1 0 u.1,.sl u.2.2.1 3 0 (Fv a cl Q u.1).length])/\u.2.2.2[u.2.1]?=some (.arr 4 1 (((Q.take u.1).map (O9 a)).map .bool))/\u.2.2.2[u.2.2.1]?=some (.arr 73 3 ((Fv a cl Q u.1).map encMv))) (λu=>Q.length - u.1) ?_ (0,_,_,Z2) ⟨by simp,xa,by rw[B6];exact z2c,by simpa using x7,by rw[B6];exact z2v⟩
 clear xa z2c x7 z2v hb x8 x9 hold z2k z1k z1b z1f z1c z1l;clear Z2 Z1;rintro⟨n,f,v,G⟩ ⟨hn,hF,gc,gf,gv⟩ ih;simp only at hn hF gc gf gv ih |-;repeat(refine s_ ?_;simp)
 refine Qb rfl (λwh=>?_) (λy8=>?_)
 ·have ze:n<Q.length:=by simpa using wh
  have hw:=wz n (by omega);have gs:G[p]?=some (.arr 47 1 (LQ Q)):=hF (p,_) (by rw[z7];simp);repeat(refine s_ ?_;simp[gs,ze])
  have xc:=zL ze;have hle:=z8.elem _ xc;have wi:Q.getD n []=Q[n]:=by simp[yQ,ze]
  have xd:=Vt a cl Q n;have wj:(Q.take (n+1)).map (O9 a)=(Q.take n).map (O9 a)++[O9 a Q[n]]:=by rw[zU ze,yR];rfl
  rw[wi]at xd;have wk:=(j1w a cl Q (z8.lim) zd n ze).2;have zq:=z8.closed _ xc;have vu:=w0b hle.1 hle.2;have wm:=λL=>Qa (G:=L) gc;have g0:∀L,(G++L)[0]?=some (.vars (Qk a)):=λL=>Qa (hF (0,_) (by rw[z7];simp)) L;have wo:((Q.take n).map (O9 a)).length=n:=by simp;omega
  generalize Q[n]=l at *
  have wF:=hF.app [.vars [.i n]];have wc:=Qa gc [.vars [.i n]];have wf:=Qa gf [.vars [.i n]];have wv:=Qa gv [.vars [.i n]];have w7:(G++[AObj.vars [.i n]])[G.length]?=some (.vars [.i n]):=by simp
  have w0:=g0 [.vars [.i n]];refine Qn (sl':=[(1,.vptr 0 0),(2,.vptr 1 0),(3,.i 0),(4,.vptr b 0),(6,.vptr c 0),(7,.vptr G.length 0),(8,LI l),(30,.sl p 1 0 Q.length),(31,.i Q.length),(32,.i n)]) ?_ (by simp);generalize G.length=n7 at *;generalize G++[AObj.vars [.i n]]=W at *;clear g0 wm gs gc gf gv hF;clear G
  have yf:((Q.take (n+1)).map (O9 a)).map AV.bool=((Q.take n).map (O9 a)).map AV.bool++[.bool (O9 a l)]:=by rw[wj];simp
  have xe:(((Q.take n).map (O9 a)).map AV.bool).length=n:=by rw[yO];exact wo
  generalize ((Q.take n).map (O9 a)).map AV.bool=xs at *
  have zr:c≠f:=λe=>by rw[e,wf]at wc;simp at wc
  have yg:c≠v:=λe=>by rw[e,wv]at wc;simp at wc
  have zt:f≠v:=λe=>by rw[e,wv]at wf;simp at wf
  have xf:c≠n7:=λe=>by rw[e,w7]at wc;simp at wc
  have xg:f≠n7:=λe=>by rw[e,w7]at wf;simp at wf
  have z6:∀p∈zh,p.2≠ .vars [.i a.types,.sl f 1 0 n,.sl v 3 0 (Fv a cl Q n).length]:=by rw[z7];simp[E6]
  have zu:∀p∈zh,p.2≠ .arr 4 1 xs:=by rw[z7];simp[E6]
  have wq:=Qe wc;have wu:=Qe wf;have zv:=Qe wv;have xh:=Qe w7;have xi:=wF.set wf zu .dead;have ya:∀L,(W.set f .dead++L)[c]?=some (.vars [.i a.types,.sl f 1 0 n,.sl v 3 0 (Fv a cl Q n).length]):=λL=>Qa (Qd (Ne.symm zr) wc _) L;refine J6 (P:=prog) tOk mixed [4,6,8] (.val 0 (.val 2 (.val 3 (.two 1 (.one 4 (.one 5 (.one 6 (.val 7 (.one 8 (.done)))))) 4 (.val 1 (.one 5 (.one 6 (.val 7 (.one 8 (.done)))))))))) (λS'=>∃f',Fx zh S'.hp/\S'.hp[n7]?=some (.vars [.i n])/\S'.hp[c]?=some (.vars [.i a.types,.sl f' 1 0 (n+1),.sl v 3 0 (Fv a cl Q n).length])/\S'.hp[f']?=some (.arr 4 1 (xs++[.bool (O9 a l)]))/\S'.hp[v]?=some (.arr 73 3 ((Fv a cl Q n).map encMv))/\look S'.sl 1=some (.vptr 0 0)/\look S'.sl 2=some (.vptr 1 0)/\look S'.sl 3=some (.i 0)/\look S'.sl 4=some (.vptr b 0)/\look S'.sl 6=some (.vptr c 0)/\look S'.sl 7=some (.vptr n7 0)/\look S'.sl 8=some (LI l)/\look S'.sl 30=some (.sl p 1 0 Q.length)/\look S'.sl 31=some (.i Q.length)/\look S'.sl 32=some (.i n)) rfl (by kernel_rfl) ?_ ?_
  ·simp[wc];refine⟨?_,?_⟩;all_goals
    refine Qu rfl rfl (Nf W l 48 (.vptr 0 0) (λs=>a.fin.getD s.toNat false) (by omega) (λz hz=>y22 W 0 a w0 z (hle.2 z hz).1 (hle.2 z hz).2)) rfl ?_;rintro _ H2 ⟨rfl,wx⟩;rw[wx];have wy:l.any (λs=>a.fin.getD s.toNat false)=O9 a l:=by unfold O9;rfl
    rw[wy];simp[wc];refine apS T22 T4 ?_;simp[Qa wf,Qh wf,xe,ya,Qa wc];refine⟨by simp[Wg,Qa wf,Qh wf,xe,ya,Qa wc]<;>omega,?_⟩;refine⟨?_,?_,W.length+1,?_,?_,?_⟩
    ·exact(xi.app _).set (ya _) z6 _
    ·rw[zE xf,zF (by simpa using xh),zE xg];exact w7
    ·rw[zK (by simp;omega)]
    ·rw[zE (by omega),zH (by simp)];simp
    rw[zE yg,zF (by simpa using zv),zE zt];exact wv
  rintro⟨sl,E⟩ ⟨f',eF,e7,ec,ef,ev,s1,s2,s3,s4,s6,s7,s8,s30,s31,s32⟩;simp only at eF e7 ec ef ev s1 s2 s3 s4 s6 s7 s8 s30 s31 s32;refine Qn (sl':=[(1,.vptr 0 0),(2,.vptr 1 0),(3,.i 0),(4,.vptr b 0),(6,.vptr c 0),(7,.vptr n7 0),(8,LI l),(30,.sl p 1 0 Q.length),(31,.i Q.length),(32,.i n)]) ?_ (by simp[s1,s2,s3,s4,s6,s7,s8,s30,s31,s32]);clear s1 s2 s3 s4 s6 s7 s8 s30 s31 s32 xi ya z6 zu wq wu zv xh zr yg zt xf xg w0 w7 wv wf wc wF;have eb:E[b]?=some (.vars [.vptr r 0]):=eF (b,_) (by rw[z7];simp);repeat(refine s_ ?_;simp[ec,Qa eb])
  have yh:∀g c,Qy a l (Ql c)=[]->stepG a Q n l g c=g:=λg c hx=>k1d z8.ne hx;have yi:∀g c t,Q[t]?=some (Qy a l (Ql c))->stepG a Q n l g c=Tx n g t c:=λg c t hx=>q1a z8.nd hx;have xj:=λk c hc=>q0j a cl Q n l (k:=k) (c:=c) hc;have v7:=λk=>Gw a cl Q n l zd k;have xk:E8 a cl Q n l 0=[]:=k02 a cl Q n l;have v8:=J7 a cl Q n l;have vb:∀k,∀m∈E8 a cl Q n l k,PWf a.types.toNat m.on:=x10 (λc hc=>(zo c hc).2.2.2.1);have vc:∀k,∀m∈E8 a cl Q n l k,∀s∈m.on,s.length<=65536:=j10 (λc hc=>(zo c hc).2.2.2.2) zd;have xl:=λf v G=>ih (n+1,f,v,G);simp only[xd,<-v8,yf]at xl;clear ih;generalize Fv a cl Q n=pre at *;refine Qu rfl rfl (A7 _ r l) rfl ?_
  rintro _ _ ⟨rfl,rfl⟩;simp;repeat(refine s_ ?_;simp)
  obtain⟨zg,z6⟩:∃zg:List (Nat×AObj),zg=zh++[(n7,.vars [.i n]),(E.length,.vars [.i pre.length]),(E.length+1,.vars [.vptr r 0]),(E.length+2,.vars [LI l]),(f',.arr 4 1 (xs++[.bool (O9 a l)]))]:=⟨_,rfl⟩
  refine W5 rfl (Rf:=λ_ H'=>∃v,Fx zg H'/\H'[c]?=some (.vars [.i a.types,.sl f' 1 0 (n+1),.sl v 3 0 (pre++E8 a cl Q n l cl.length).length])/\H'[v]?=some (.arr 73 3 ((pre++E8 a cl Q n l cl.length).map encMv))/\∃sl' yj a' b',H'[E.length+3]?=some (.lp true none 100 sl' yj a' b')) ?_ ?_
  ·simp;refine Sd λH1 zw=>?_;have vd:Fx zg H1:=by
    rw[z6,zw];intro x hx;rcases zT.1 hx with hx|hx
    ·exact(eF.app _) x hx
    simp only[zX,ub,or_false]at hx;rcases hx with rfl|rfl|rfl|rfl|rfl
    ·exact Qa e7 _
    ·rw[zH (by simp)];simp
    ·rw[zH (by simp)];simp
    ·rw[zH (by simp)];simp
    exact Qa ef _
   have fc:H1[c]?=some (.vars [.i a.types,.sl f' 1 0 (n+1),.sl v 3 0 pre.length]):=by rw[zw];exact Qa ec _
   have fv:H1[v]?=some (.arr 73 3 (pre.map encMv)):=by rw[zw];exact Qa ev _
   have fq:=congrArg (λh:List AObj=>h[E.length+3]?) zw;simp at fq;clear zw;refine FC.mono (w08 a zn cl l (λc hc=>⟨(zo c hc).1,(zo c hc).2.1,(zo c hc).2.2.1⟩) zd (E.length+3) (E.length+1) (E.length+2) r (by rfl) (by rfl)
    (λk H'=>∃v,Fx zg H'/\H'[c]?=some (.vars [.i a.types,.sl f' 1 0 (n+1),.sl v 3 0 (pre++E8 a cl Q n l k).length])/\H'[v]?=some (.arr 73 3 ((pre++E8 a cl Q n l k).map encMv))/\H'[E.length+3]? =H1[E.length+3]?)
    (λk H' ⟨v',h1,h2,h3,h4⟩=>⟨h4.trans fq,h1 (E.length+1,_) (by rw[z6];simp),h1 (E.length+2,_) (by rw[z6];simp),[.sl p 1 0 Q.length,.mref m],h1 (r,_) (by rw[z6,z7];simp)⟩) ?_ ?_ ?_ H1 ⟨v,vd,by rw[xk,xG];exact fc,by rw[xk,xG];exact fv,rfl⟩) ?_
   ·rintro k H' L ⟨v',h1,h2,h3,h4⟩;exact⟨v',h1.app L,Qa h2 L,Qa h3 L,by rw[<-h4,zF (by rw[fq]at h4;exact Qe h4)]⟩
   ·rintro k cc H' hc yk ⟨v',h1,h2,h3,h4⟩;have:=yh (E8 a cl Q n l k) cc yk;rw[<-xj k cc hc]at this;exact⟨v',h1,by rw[this];exact h2,by rw[this];exact h3,h4⟩
   ·rintro k cc H' hc yk ⟨v',h1,h2,h3,h4⟩;rw[xj k cc hc];have zx:=zJ hc;have yl:Qy a l (Ql cc)∈Q:=(zq cc zx).resolve_left yk;have ym:=yi (E8 a cl Q n l k) cc;have ve:=v7 k;have zj:=vb k;have yn:=vc k;have zi:=zo cc zx;generalize Qy a l (Ql cc)=nx at *;generalize stepG a Q n l (E8 a cl Q n l k) cc=g2 at *;generalize E8 a cl Q n l k=g at *
    simp[E7];have h8:=h4.trans fq;obtain⟨LP0,zk⟩:∃LP0,H1[E.length+3]?=some LP0:=⟨_,fq⟩
    have za:LP0.isLp=true:=by rw[fq]at zk;injection zk with e;rw[<-e];rfl
    have zb:H'[E.length+3]?=some LP0:=h4.trans zk;have yo:∀p∈zg,p.2≠LP0:=λp hp e=>by rw[<-e]at za;rw[z6,z7]at hp;simp only[zT,zX,ub,or_false]at hp;rcases hp with(rfl|rfl|rfl|rfl|rfl|rfl)|(rfl|rfl|rfl|rfl|rfl)<;>simp[AObj.isLp,E6]at za
    have y1:=h1.set zb yo .dead;have yp:E.length+3≠c:=λe=>by rw[e,h2]at zb;injection zb with e2;rw[<-e2]at za;simp[AObj.isLp]at za
    have yq:E.length+3≠v':=λe=>by rw[e,h3]at zb;injection zb with e2;rw[<-e2]at za;simp[AObj.isLp]at za
    have y2:=Qd yp h2 .dead;have y3:=Qd yq h3 .dead;have y4:=Qg zb .dead;generalize H'.set (E.length+3) .dead=Y at *
    have yb:Y[b]?=some (.vars [.vptr r 0]):=y1 (b,_) (by rw[z6,z7];simp);have y0:Y[0]?=some (.vars (Qk a)):=y1 (0,_) (by rw[z6,z7];simp);have y7:Y[n7]?=some (.vars [.i n]):=y1 (n7,_) (by rw[z6];simp);have y9:Y[E.length]?=some (.vars [.i pre.length]):=y1 (E.length,_) (by rw[z6];simp);have yt:TB r p m a cl Q Y:=⟨y1 (r,_) (by rw[z6,z7];simp),y1 (p,_) (by rw[z6,z7];simp),y1 (m,_) (by rw[z6,z7];simp)⟩
    repeat(refine s_ ?_;simp[Qa yb])
    refine Qu rfl rfl (w0n _ r p m a cl Q nx (yt.keep λj hj=>?_) (xb nx yl) xb (by omega)) rfl ?_
    ·have:j<Y.length:=by
      rcases hj with rfl|rfl|rfl
      ·exact Qe yt.t
      ·exact Qe yt.s
      exact Qe yt.n
     exact zF this
    rintro res Z ⟨t,p2,rfl,xm,-,-,-,hZ,-⟩;rw[hZ yl];have yr:j0f Q nx=Q:=by rw[j0f,if_pos yl]
    rw[yr]at xm;rw[ym t xm];clear hZ;simp;repeat(refine s_ ?_;simp[Qa y2,Qa y9])
    have xn:∀M,(Y++M)[v']?=some (.arr 73 3 ((pre++g).map encMv)):=λM=>Qa y3 M;refine Qu rfl rfl (g0g (Y++[AObj.vars [.list (cc.map encL)],.vars [.i t]]) v' pre.length t (Y.length+1) pre g (by rw[zH (by omega)];simp) (xn _) (by omega) rfl) rfl ?_;rintro _ _ ⟨rfl,L,rfl⟩;simp;repeat(refine s_ ?_;simp)
    have w1:=y1.app ([AObj.vars [.list (cc.map encL)],.vars [.i t]]++L);have w2:=Qa y2 ([AObj.vars [.list (cc.map encL)],.vars [.i t]]++L);have w3:=xn ([AObj.vars [.list (cc.map encL)],.vars [.i t]]++L);have w4:=Qa y4 ([AObj.vars [.list (cc.map encL)],.vars [.i t]]++L);have w5:(Y++([AObj.vars [.list (cc.map encL)],.vars [.i t]]++L))[Y.length]?=some (.vars [.list (cc.map encL)]):=by rw[zH (by omega)];simp
    have w6:(Y++([AObj.vars [.list (cc.map encL)],.vars [.i t]]++L))[Y.length+1]?=some (.vars [.i t]):=by rw[zH (by omega)];simp
    have w7:=Qa y7 ([AObj.vars [.list (cc.map encL)],.vars [.i t]]++L);have w0:=Qa y0 ([AObj.vars [.list (cc.map encL)],.vars [.i t]]++L);have w9:=Qa y9 ([AObj.vars [.list (cc.map encL)],.vars [.i t]]++L);have xo:((a.types.toNat:Nat):Int)=a.types:=by have:=zn.types;omega
    simp only[List.cons_append,List.nil_append]at w0 w1 w2 w3 w4 w5 w6 w7 w9;generalize Y++AObj.vars [.list (cc.map encL)]::AObj.vars [.i t]::L=W at *;generalize Y.length+1=i12 at *;generalize Y.length=i10 at *
    have xp:∀p∈zg,p.2≠ .dead:=by rw[z6,z7];simp[E6]
    have yu:∀p∈zg,p.2≠ .vars [.i a.types,.sl f' 1 0 (n+1),.sl v' 3 0 (pre.length+g.length)]:=by rw[z6,z7];simp[E6]
    have zy:∀p∈zg,p.2≠ .arr 73 3 ((pre++g).map encMv):=by rw[z6,z7];simp[E6]
    rw[zW]at w2;have xq:v'≠c:=λe=>by rw[e,w2]at w3;simp at w3
    have yv:v'≠E.length+3:=λe=>by rw[e,w4]at w3;simp at w3
    have yw:c≠E.length+3:=λe=>by rw[e,w4]at w2;simp at w2
    have lc:=Qe w2;have lv:=Qe w3;have lq:=Qe w4;refine Qn (sl':=[(1,.vptr 0 0),(6,.vptr c 0),(7,.vptr n7 0),(9,.vptr E.length 0),(10,.vptr i10 0),(12,.vptr i12 0),(13,.i (c0d g t)),(63,.bool (decide (c0d g t<0)))]) ?_ (by simp);cases hfi:g.findIdx? λm:Mv=>decide (m.dst=(t:Int))with
    |none=>
     have yx:c0d g t= -1:=by rw[c0d,hfi]
     have zl:Tx n g t cc=g++[⟨n,t,cc⟩]:=by rw[Tx,hfi]
     rw[yx,zl];refine Qr rfl ?_;simp;repeat(refine s_ ?_;simp)
     refine Qo tOk mixed [11,13] (.val 0 (.val 1 (.val 2 (.val 3 (.val 4 (.val 5 (.val 6 (.one 7 (.one 8 (.val 9 (.one 10 (.one 11 (.val 12 (.one 13 (.done))))))))))))))) rfl (by kernel_rfl) ?_;simp[w0,w2,w5,w6,w7];refine Ww W.length (e:=70) (c:=1) (xs:=[encP cc]) (by simp) ?_;simp;have xr:=X4 a.types.toNat [cc] (by have:=zn.types;omega) (λp hp=>by rw[zO.1 hp];exact zi.2.2.2.1) (λj hj=>q25 zi.2.2.2.1 zi.2.2.2.2 hj) (by simp);rw[xo,y2y zi.2.2.2.1]at xr;refine pcL (xr) ?_;simp;have w2b:∀M,(W++M)[c]?=some (.vars [.i a.types,.sl f' 1 0 (n+1),.sl v' 3 0 (pre.length+g.length)]):=λM=>Qa w2 M;have w2c:∀M,(W.set v' .dead++M)[c]?=some (.vars [.i a.types,.sl f' 1 0 (n+1),.sl v' 3 0 (pre.length+g.length)]):=λM=>Qa (Qd xq w2 _) M;have zv:((pre++g).map encMv).length=pre.length+g.length:=by simp
     have vf:=(w1.set w3 zy .dead)
     generalize yy:(pre++g).map encMv=mm at *;refine apS T23 T73 ?_
     simp[Qa w3,Qh w3,w2b,w2c,zv];refine⟨by simp[Wg,Qa w3,Qh w3,w2b,w2c,zv]<;>omega,?_⟩;repeat(refine s_ ?_;simp)
     have zm:((W.set v' AObj.dead++[AObj.dead,AObj.arr 73 3 [.agg [.i n,.i t,.list (cc.map encL)]],AObj.arr 73 3 (mm++[.agg [.i n,.i t,.list (cc.map encL)]])]).set c (AObj.vars [.i a.types,.sl f' 1 0 (n+1),.sl (W.length+2) 3 0 (pre.length+g.length+1)]))[E.length+3]?=some .dead:=by rw[zE yw,zF (by simpa using lq),zE yv];exact w4
     refine⟨zm,rfl,((vf.app _).set (w2c _) yu _).set zm xp _,W.length+2,?_,?_,?_⟩
     ·rw[zE (Ne.symm yw),zK (by simp;omega)];simp[Nat.add_assoc]
     ·rw[zE (by omega),zE (by omega),zH (by simp)];rw[<-yy];simp
     rw[fq,zK (Qe zm)]
    |some i=>
     have yx:c0d g t=i:=by rw[c0d,hfi]
     obtain⟨xt,hid,-⟩:=List.findIdx?_eq_some_iff_getElem.1 hfi;have xu:g[i]?=some g[i]:=zI xt;have zl:Tx n g t cc=g.set i { g[i]with on:=Ro g[i].on cc }:=by rw[Tx,hfi];simp[xu]
     rw[yx,zl];refine Qb rfl (λh=>by simp at h;omega) (λ_=>?_);have vg:IntKind.i64.wrap ((pre.length:Int)+i)=pre.length+i:=wrap_i64 _ (by omega) (by omega);have yz:(pre.length:Int)+i<pre.length+g.length:=by omega
     have vh:(0:Int)<=(pre.length:Int)+i:=by omega
     have vi:((pre.length:Int)+i).toNat=pre.length+i:=by omega
     repeat(refine s_ ?_;simp[w2,w9,vg,yz,vh,vi])
     have y8:((pre++g).map encMv)[pre.length+i]?=some (.agg [.i g[i].src,.i g[i].dst,.list (g[i].on.map encL)]):=by rw[yR,zH (by simp)];simp[xu]
     have x0:((pre++g).map encMv).length=pre.length+g.length:=by simp
     generalize yy:(pre++g).map encMv=mm at *
     have x2:yU 2=[0,1]:=rfl;refine Qo tOk mixed [12] (.val 0 (.val 1 (.val 2 (.val 3 (.val 4 (.val 5 (.val 6 (.val 7 (.one 8 (.one 9 (.val 10 (.val 11 (.one 12 (.done)))))))))))))) rfl (by kernel_rfl) ?_;simp[w0,w3,w5,y8,x0,x2];refine Ww W.length (e:=70) (c:=1) (xs:=[encP g[i].on,encP cc]) (by simp) ?_;simp;have yc:=zL xt;have xv:=X4 a.types.toNat [g[i].on,cc] (by have:=zn.types;omega) (λp hp=>by
      simp only[zX,ub,or_false]at hp;rcases hp with rfl|rfl
      ·exact zj _ yc
      exact zi.2.2.2.1) (λj hj=>c10 (zj _ yc) zi.2.2.2.1 (yn _ yc) zi.2.2.2.2 hj) (by simp)
     rw[xo,q2t (zj _ yc) zi.2.2.2.1]at xv;have w3b:∀M,(W++M)[v']?=some (.arr 73 3 mm):=λM=>Qa w3 M;refine pcL (xv) ?_;simp[w3b,y8,Qh w3];repeat(refine s_ ?_;simp)
     have zm:(W.set v' (AObj.arr 73 3 (mm.set (pre.length+i) (.agg [.i g[i].src,.i g[i].dst,.list ((Ro g[i].on cc).map encL)])))++[AObj.dead])[E.length+3]?=some .dead:=by rw[zF (by simpa using lq),zE yv];exact w4
     refine⟨zm,rfl,(((w1.set w3 zy _).app _).set zm xp _),v',?_,?_,?_⟩
     ·rw[zE (Ne.symm yw),zF (by simpa using lc),zE xq];rw[w2]
     ·rw[zE (Ne.symm yv),zF (by simpa using lv),zK lv];rw[<-yy,yR,List.set_append_right _ _ (by simp)];simp[List.map_set]
     rw[fq,zK (Qe zm)]
   rintro _ H' ⟨v',h1,h2,h3,h4⟩;exact⟨h1,v',by simpa using h2,by simpa using h3,_,_,_,_,h4.trans fq⟩
  rintro res H' ⟨v',h1,h2,h3,⟨sl',yj,a',b',h6⟩⟩;refine⟨true,none,100,sl',yj,a',b',by simpa using h6,?_⟩;simp;have yp:E.length+3≠c:=λe=>by rw[e,h2]at h6;simp at h6
  have yq:E.length+3≠v':=λe=>by rw[e,h3]at h6;simp at h6
  have y1:=h1.set h6 (by rw[z6,z7];simp[E6]) .dead;have y2:=Qd yp h2 .dead;have y3:=Qd yq h3 .dead;generalize H'.set (E.length+3) .dead=Y at *
  repeat(refine s_ ?_;simp[hw])
  refine Qc (sl':=[(1,.vptr 0 0),(2,.vptr 1 0),(3,.i 0),(4,.vptr b 0),(6,.vptr c 0),(30,.sl p 1 0 Q.length),(31,.i Q.length),(32,.i (n+1:Nat))]) ?_ (by simp);refine xl f' v' Y ⟨by omega,λx hx=>y1 x (by rw[z6];exact yV _ hx),y2,y1 (f',_) (by rw[z6];simp),y3⟩ (by omega)
 have x3:n=Q.length:=by simp at y8;omega
 subst x3;have zz:Fv a cl Q Q.length=(Uh a cl Q).mv:=x1t a cl Q;have x4:(Q.take Q.length).map (O9 a)=(Uh a cl Q).fin:=by rw[yI];exact(z0u a cl Q).symm
 have vj:(Uh a cl Q).fin.length=Q.length:=by rw[z0u];simp
 have vk:(Uh a cl Q).mv.length<=65536:=by rw[<-zz];exact w1x a cl Q we zd
 rw[zz]at gc gv;rw[x4]at gf;rw[<-vj]at gc;have vl:(Uh a cl Q).types=a.types:=k0j a cl Q;have yz:La (Uh a cl Q)=if Vn (Uh a cl Q)then(5,Ty)else(0,Uh a cl Q):=y00 _
 rw[yz];generalize Uh a cl Q=d at *
 have g1:G[1]?=some (.vars [.i 0,.nils,.nils]):=hF (1,_) (by rw[z7];simp);have yg:v≠c:=λe=>by rw[e,gc]at gv;simp at gv
 have zt:f≠v:=λe=>by rw[e,gv]at gf;simp at gf
 have yd:f≠c:=λe=>by rw[e,gc]at gf;simp at gf
 have vm:f≠1:=λe=>by rw[e,g1]at gf;simp at gf
 have vn:v≠1:=λe=>by rw[e,g1]at gv;simp at gv
 have vo:c≠1:=λe=>by rw[e,g1]at gc;simp at gc
 refine Qn (sl':=[(2,.vptr 1 0),(3,.i 0),(6,.vptr c 0)]) ?_ (by simp);refine Q6 v gv c gc ?_;simp[zt];rw[zV (by simp)];have x5:=Qe gc;have vp:=Qe gf;refine Q4 λZ hZ=>?_;have zc:Z[c]?=some (.vars [.i d.types,.sl f 1 0 d.fin.length,.list (d.mv.map encMv)]):=by rw[hZ,vl];exact zK (by simpa using x5)
 have zf:Z[f]?=some (.arr 4 1 (d.fin.map .bool)):=by rw[hZ,zE (Ne.symm yd),zE (Ne.symm zt)];exact gf
 have z1:Z[1]?=some (.vars [.i 0,.nils,.nils]):=by rw[hZ,zE vo,zE vn];exact g1
 clear hZ;repeat(refine s_ ?_;simp[zc])
 refine Qu rfl rfl (Hc Z f d zf (by omega) (by omega)) rfl ?_;rintro res Y ⟨hr,xw⟩;have y5:=(xw 1 (Qe z1)).trans z1;have vq:=(xw f (Qe zf)).trans zf;have x2:∀X,(Y.set 1 X)[1]?=some X:=λX=>Qg y5 X;rcases hr with⟨hb,rfl⟩|⟨hb,rfl⟩
 ·rw[hb];simp[y5];repeat(refine s_ ?_;simp[x2])
  exact⟨rfl,rfl,rfl⟩
 rw[hb];simp[y5];refine Qn (sl':=[(2,.vptr 1 0),(3,.i 0)]) ?_ (by simp);refine Q6 f (Qd (Ne.symm vm) vq _) 1 (Qg y5 _) ?_;simp;rw[zV (by simp)];refine Q4 λX hX=>?_;have x1:X[1]?=some (.vars [.i d.types,.list (d.fin.map .bool),.list (d.mv.map encMv)]):=by rw[hX];exact zK (by have:=Qe y5;simpa using this)
 repeat(refine s_ ?_;simp[x1])
end
section
open Go Go.Proofs Go.Maps Go.RowKit
def f1o{a:Aut}(h:(Wv a).1=0):OkA (Wv a).2:=by
 have h0:(Pn a).1=0:=by
  by_cases hs:(Pn a).1=0
  ·exact hs
  rw[Wv,if_pos hs]at h;exact absurd h hs
 obtain⟨z8,cl,Q,z7,za,z1,z6,_,_⟩:=B1 h0;have hd:Wv a=La (Uh a cl Q):=by rw[Wv,z7];simp
 rw[hd]at h |-;have hw:=g1y z1 z6;have e:La (Uh a cl Q)=(0,(La (Uh a cl Q)).2):=vY h rfl;have h2:=q15 hw e;rw[h2.1];exact h2.1▸h2.2
def Y8(l:List Bool)(i:Nat):List Bool:=l.mapIdx λk b=>if k<i then !b else b
def v0n(l:List Bool):Y8 l 0=l:=by refine xZ (by simp[Y8]) λk h1 h2=>by simp[Y8]
def d0z(l:List Bool):Y8 l l.length=l.map (!·):=by
 refine xZ (by simp[Y8]) λk h1 h2=>?_;have:k<l.length:=by simpa[Y8]using h1
 simp[Y8,this]
def y1c(l:List Bool)(i:Nat):(Y8 l i).length=l.length:=by simp[Y8]
def f0t{l:List Bool}{i:Nat}(h:i<l.length):((Y8 l i).map AV.bool)[i]?=some (.bool l[i]):=by simp[Y8,h]
def c06{l:List Bool}{i:Nat}(h:i<l.length):((Y8 l i).map AV.bool).set i (.bool (!l[i]))=(Y8 l (i+1)).map AV.bool:=by
 refine xZ (by simp[Y8]) λk h1 h2=>?_;have hk:k<l.length:=by simpa[Y8]using h2
 rw[List.getElem_set];by_cases e:i=k
 ·subst e;simp[Y8]
 rw[if_neg e];simp only[Y8,uA,List.getElem_mapIdx];by_cases h3:k<i
 ·rw[if_pos h3,if_pos (by omega)]
 rw[if_neg h3,if_neg (by omega)]
attribute [local irreducible] Wv Il Y8
def Ss(a:Aut):PC prog 16 [encA a] (λr=>r= .tup [encA (Mw a).2,.i (Mw a).1]):=by
 refine pcB func16 results16 ntmps16 ?_;simp only[Qf];simp only[encA];repeat(refine s_ ?_;simp)
 refine pcL (Ex a) ?_;simp;repeat(refine s_ ?_;simp)
 refine Qb rfl (λh=>?_) (λh=>?_)
 ·have h':(Wv a).1≠0:=by simpa using h
  have hc:Mw a=((Wv a).1,Ty):=by rw[Mw,if_pos h']
  rw[hc];repeat(refine s_ ?_;simp)
  exact⟨rfl,rfl,rfl⟩
 have h':(Wv a).1=0:=by simpa using h
 have z7:=f1o h';have zh:Mw a=if(Il (Wv a).2).1≠0 then((Il (Wv a).2).1,Ty)else(0,I9 (Il (Wv a).2).2):=by rw[Mw,if_neg (λk=>k h')]
 rw[zh];generalize (Wv a).2=d at *
 repeat(refine s_ ?_;simp)
 refine Qu rfl rfl (Fi _ d z7) rfl ?_;rintro r H' ⟨hr,hk⟩;have z8:=hk 1 (by simp);simp at z8;rcases hr with⟨e,he,ze,rfl⟩|⟨bb,f,he,rfl,hf,zi⟩
 ·rw[he];simp;repeat(refine s_ ?_;simp)
  refine Qb rfl (λ_=>?_) (λh=>by simp at h;exact absurd h ze);have k2:∀L Y,((H'++L).set 1 Y)[1]?=some Y:=λL Y=>Qg (Qa z8 L) Y;repeat(refine s_ ?_;simp[Qa z8,k2])
  rw[if_neg ze];exact⟨⟨rfl,rfl,rfl⟩,rfl⟩
 rw[he];have zo:bb.fin.length<=256:=by have:=(Gf z7 he).1.fin;omega
 simp;repeat(refine s_ ?_;simp)
 refine Qr rfl ?_;simp;repeat(refine s_ ?_;simp)
 have zf:f≠1:=by simp at zi;omega
 have zp:=Qe hf;refine Qn (sl':=[(2,.vptr 1 0),(3,.i 0),(6,.vptr H'.length 0),(28,.i bb.fin.length),(29,.i (0:Nat))]) ?_ (by simp);have q6:(H'++[AObj.vars [.i bb.types,.sl f 1 0 bb.fin.length,.list (bb.mv.map encMv)]])[H'.length]?=some (.vars [.i bb.types,.sl f 1 0 bb.fin.length,.list (bb.mv.map encMv)]):=by simp
 have qf:=Qa hf [AObj.vars [.i bb.types,.sl f 1 0 bb.fin.length,.list (bb.mv.map encMv)]];have q1:=Qa z8 [AObj.vars [.i bb.types,.sl f 1 0 bb.fin.length,.list (bb.mv.map encMv)]];generalize H'++[AObj.vars [.i bb.types,.sl f 1 0 bb.fin.length,.list (bb.mv.map encMv)]]=G at *
 have zj:f≠H'.length:=by omega
 have zk:H'.length≠1:=by have:=Qe z8;omega
 generalize H'.length=c at *;refine Qj (Qc (sl':=[(2,.vptr 1 0),(3,.i 0),(6,.vptr c 0),(28,.i bb.fin.length),(29,.i (0:Nat))]) ?_ (by simp))
 refine Qi (F:=λ(u:Nat×List AObj)=>⟨[(2,.vptr 1 0),(3,.i 0),(6,.vptr c 0),(28,.i bb.fin.length),(29,.i u.1)],u.2⟩)
  (λu=>u.1<=bb.fin.length/\u.2[c]?=some (.vars [.i bb.types,.sl f 1 0 bb.fin.length,.list (bb.mv.map encMv)])/\u.2[f]?=some (.arr 4 1 ((Y8 bb.fin u.1).map .bool))/\u.2[1]?=some (.vars [.i 0,.nils,.nils])) (λu=>bb.fin.length - u.1) ?_ (0,G) ⟨by simp,q6,by rw[v0n];exact qf,q1⟩
 clear q6 qf q1;clear G;rintro⟨i,G⟩ ⟨hi,gc,gf,g1⟩ ih;simp only at hi gc gf g1 ih |-;repeat(refine s_ ?_;simp)
 refine Qb rfl (λzl=>?_) (λzm=>?_)
 ·have z6:i<bb.fin.length:=by simpa using zl
  have hw:=wz i (by omega);have za:=f0t z6;have hst:=c06 z6;have zn:((Y8 bb.fin i).map AV.bool).length=bb.fin.length:=by rw[yO,y1c]
  have zg:=λG'=>ih (i+1,G');simp only[<-hst]at zg;clear hst;generalize (Y8 bb.fin i).map AV.bool=xs at *
  have zb:∀hh,xs[i]'hh= .bool bb.fin[i]:=λhh=>by rw[zI hh]at za;exact Option.some.inj za
  repeat(refine s_ ?_;simp)
  refine Qo tOk mixed [10] (.val 0 (.val 1 (.val 2 (.val 3 (.val 4 (.val 5 (.val 6 (.val 7 (.val 8 (.val 9 (.one 10 (.done)))))))))))) rfl (by kernel_rfl) ?_;simp[gc,gf,za,zb,zn,z6];repeat(refine s_ ?_;simp[hw])
  refine Qc (sl':=[(2,.vptr 1 0),(3,.i 0),(6,.vptr c 0),(28,.i bb.fin.length),(29,.i (i+1:Nat))]) ?_ (by simp);exact zg _ ⟨by omega,Qd zj gc _,Qg gf _,Qd zf g1 _⟩ (by omega)
 have zd:i=bb.fin.length:=by simp at zm;omega
 subst zd;rw[d0z]at gf;refine Q6 f gf c gc ?_;simp;rw[zV (by simp)];refine Q4 λZ hZ=>?_;have zc:Z[c]?=some (.vars [.i bb.types,.list ((bb.fin.map (!·)).map .bool),.list (bb.mv.map encMv)]):=by rw[hZ,zK (by have:=Qe gc;simpa using this)];simp
 have z1:Z[1]?=some (.vars [.i 0,.nils,.nils]):=by rw[hZ,zE zk,zE zf];exact g1
 clear hZ;have z2:∀X,(Z.set 1 X)[1]?=some X:=λX=>Qg z1 X;repeat(refine s_ ?_;simp[zc,z1,z2])
 refine⟨rfl,?_,rfl⟩;simp[I9]
end
section
open Go Go.Proofs Go.Maps Go.RowKit
attribute [local irreducible] Wo
attribute [local irreducible] Il Wz q1s Ea
end
section
open Go Go.Proofs Go.Maps Go.RowKit
section
variable {P:Program} [Env P] {T:TT} {nt k:Nat} {S:AS}
def Uk (hT:TOk P T) (hm:P.follows .mixedOrders=true) {Q:Exit->AS->Prop} {id:Nat} {l:List Oper} (Wr:List Nat) (p:PlanM) (Ph:AS->Prop) (hd:Uj nt l=true)
  (hp:(Region.noSelect l.toArray && p.size==l.length && Y9 l.toArray (Ie l []) Wr p (Array.replicate l.length false))=true)
  (h:U1 P T nt k l.toArray Wr.contains Ph p S) (hn:∀S',Ph S'->Q .normal S'):AWP P nt k (.region id l.toArray true) Q S:=
 (Bh (Q:=λe S=>e= .normal/\Ph S) hT hm Wr p hd hp (Em (λ_ h=>⟨rfl,h⟩) p S h)).mono λe S ⟨he,hr⟩=>by subst he;exact hn S hr
end
attribute [local irreducible] Ez upL
end
section
open Go Go.Proofs Go.Maps Go.RowKit
def u2j(p q:Prd):Kx (Ql p) (Ql q)=Bs (Qx p 0) (Qx q 0):=by
 have h1:decide (((Qx p 0).1:Int)<(Qx q 0).1)=decide ((Qx p 0).1<(Qx q 0).1):=by rw[decide_eq_decide];omega
 have h2:decide (((Qx p 0).1:Int)=(Qx q 0).1)=decide ((Qx p 0).1=(Qx q 0).1):=by rw[decide_eq_decide];omega
 unfold Kx Bs Ql;simp only[h1,h2]
attribute [local irreducible] Ea Wn T6 Wj y1t Pd Y0 Qx
end
section
open Go Go.Proofs Go.Maps Go.RowKit
attribute [local irreducible] Q5 Eu
attribute [local irreducible] Yz
end
section
open Go Go.Proofs Go.Maps Go.RowKit
attribute [local irreducible] Qy Ql v0g Tc R9 Nt Wo
end
section
open Go Go.Proofs Go.Maps Go.RowKit
attribute [local irreducible] Pn Qy Ql La Uh Fv E8 stepG O9 Vn Nt Wo
end
section
open Go Go.Proofs Go.Maps Go.RowKit
attribute [local irreducible] Wv Sx Il
end
section
open Go Go.Proofs Go.Maps Go.RowKit
attribute [local irreducible] Wo
attribute [local irreducible] Rk
attribute [local irreducible] toL
end
section
open Go Go.Proofs Go.Maps Go.RowKit
attribute [local irreducible] Ql Q5
end
section
open Go Go.Proofs Go.Maps Go.RowKit
abbrev PQ:=(Int×Int)×List Sy
def w16{good:Int×Int->Bool}{succ:Int×Int->List (Sy×(Int×Int))}{f n:Nat}{L:List PQ}(h:L[n]? =none):Vc good succ f n L=(none,L):=by
 cases f with
 |zero=>rw[Vc]
 |succ f=>rw[Vc,h]
def f09{good:Int×Int->Bool}{succ:Int×Int->List (Sy×(Int×Int))}{f n:Nat}{L:List PQ}{s:Int×Int}{w:List Sy}(h:L[n]?=some (s,w)):Vc good succ (f+1) n L=if good s=true then(some w,L)else Vc good succ f (n+1) (Ev L w (succ s)):=by rw[Vc,h]
def k0z(L:List PQ)(w:List Sy):Ev L w ([]:List (Sy×(Int×Int)))=L:=rfl
attribute [local irreducible] Pj toL Vc Ev g0h Yb Kp
end
section
open Go Go.Proofs Go.Maps Go.RowKit
instance inS_dec (a:Aut) (s:Int):Decidable (inS a s):=by unfold inS;exact inferInstance
attribute [local irreducible] Kp
abbrev T0 (l:List Nat):List Int:=l.map λx:Nat=>(x:Int)
attribute [local irreducible] eqS
end
def E9(a b:Aut):Int:=if Wo a≠0 then Wo a else if Wo b≠0 then Wo b else if a.types≠b.types then 15 else 0
instance (a:Aut) (s:Int):Decidable (inS a s):=inferInstanceAs (Decidable (0<=s/\s<(a.fin.length:Int)))
def Ij(a b:Aut):Int:=if E9 a b≠0 then E9 a b else if(Wv a).1≠0 then(Wv a).1 else(Wv b).1
def w1g(a b:Aut):(List Sy×Bool)×Int:=if Ij a b≠0 then(([],false),Ij a b)else match (y1p (Wv a).2 (Wv b).2 neB).1 with
 |some w=>((w,true),0)
 |none=>(([],false),0)
def Sn{a b:Aut}:E9 a b=0↔OkA a/\OkA b/\b.types=a.types:=by
 unfold E9;by_cases h1:Wo a≠0
 ·rw[if_pos h1];exact⟨λh=>absurd h h1,λh=>absurd ((Ud a).2 h.1) h1⟩
 rw[if_neg h1];by_cases h2:Wo b≠0
 ·rw[if_pos h2];exact⟨λh=>absurd h h2,λh=>absurd ((Ud b).2 h.2.1) h2⟩
 rw[if_neg h2];by_cases h3:a.types≠b.types
 ·rw[if_pos h3];exact⟨λh=>(by cases h),λh=>absurd h.2.2.symm h3⟩
 rw[if_neg h3];exact⟨λ_=>⟨(Ud a).1 (Decidable.not_not.1 h1),(Ud b).1 (Decidable.not_not.1 h2),(Decidable.not_not.1 h3).symm⟩,λ_=>rfl⟩
section
section
variable {a b:Aut}
def Hs(hb:E9 a b=0):Ij a b=0↔(Wv a).1=0/\(Wv b).1=0:=by
 unfold Ij;rw[if_neg (λk=>k hb)];by_cases h:(Wv a).1≠0
 ·rw[if_pos h];exact⟨λk=>absurd k h,λk=>absurd k.1 h⟩
 rw[if_neg h];exact⟨λk=>⟨Decidable.not_not.1 h,k⟩,λk=>k.2⟩
def Pc{a:Aut}(h:(Wv a).1=0):Wv a=(0,(Wv a).2):=vY h rfl
def f06(hb:E9 a b=0)(ho:Ij a b=0)(wn:Bool->Bool->Bool):
  (∃w,(y1p (Wv a).2 (Wv b).2 wn).1=some w/\FirstP (Wb a) (wnd wn a b) w)\/((y1p (Wv a).2 (Wv b).2 wn).1=none/\∀v,(∀z∈v,Wb a z)->wnd wn a b v=false):=by
 obtain⟨h1,h2,h3⟩:=Sn.1 hb;obtain⟨d1,d2⟩:=(Hs hb).1 ho;have e:=u0w h1 h2 h3 (Pc d1) (Pc d2) wn;rcases Bl h1 h2 h3 (Pc d1) (Pc d2) wn with⟨w,L,k1,k2⟩|⟨L,k1,k2⟩
 ·exact .inl ⟨w,by rw[<-e,k1],k2⟩
 exact .inr ⟨by rw[<-e,k1],k2⟩
def c0a(hb:E9 a b=0)(ho:Ij a b=0):(∃w,w1g a b=((w,true),0)/\FirstP (Wb a) (wnd neB a b) w)\/(w1g a b=(([],false),0)/\∀v,(∀z∈v,Wb a z)->E5 a v=E5 b v):=by
 unfold w1g;rw[if_neg (λk=>k ho)];rcases f06 hb ho neB with⟨w,h1,h2⟩|⟨h1,h2⟩
 ·rw[h1];exact .inl ⟨w,rfl,h2⟩
 rw[h1];refine .inr ⟨rfl,λv hv=>?_⟩;have:=h2 v hv;unfold wnd neB at this;simpa using this
def d1r{w:List Sy}(h:FirstP (Wb a) (wnd neB a b) w):E5 a w≠E5 b w:=by have hh:=h.hit;unfold wnd neB at hh;simpa using hh
end
end
def g25:Prd:=[[⟨-1099511627776,1099511627776⟩]]
def j2q:Prd:=[[⟨-1099511627776,4⟩]]
def j1m:Prd:=[[⟨5,1099511627776⟩]]
def xrC:List Prd:=[j2q,j1m]
def xqQ:List (List Int):=[[0],[1]]
def f1k{a d:Aut}{C:List Prd}{Q:List (List Int)}(hk:Wo a=0)(hm:(Cf a.types (onA a)).1=0/\(Cf a.types (onA a)).2=C)(hs:Jm a C=some Q)(hd:Uh a C Q=d)(hb:Vn d=false):Wv a=(0,d):=by
 have z6:R9 a.types (onA a)=(0,C):=by rw[<-c0b];exact vY hm.1 hm.2
 have z1:Pn a=(0,C,Q):=by
  rw[Pn,if_neg (λk=>k hk),z6];rw[if_neg (by simp)];split
  ·rename_i h;have h2:Jm a C=none:=h;rw[hs]at h2;cases h2
  rename_i R h;have h2:Jm a C=some R:=h;rw[hs]at h2;rw[<-Option.some.inj h2]
 rw[Wv,z1,if_neg (by simp)];show La (Uh a C Q)=_;rw[hd,y00,hb];rfl
def x1r{a m:Aut}(ha:OkA a)(hm:Pr a=(0,m)):∀n:Nat,n<m.fin.length->∃w,(∀x∈w,Wb m x)/\stF m 0 w=n:=by
 obtain⟨c,c1,c2,rfl,c4,_⟩:=Sj ha hm;exact λn hn=>by obtain⟨w,hw,e⟩:=u01 c1 c4 hn;exact⟨w,λx hx=>(W6 (Je c)).2 (hw x hx),e⟩
def j0k:List Iv->Int->Option Int
 |[],_=>none
 |x::l,n=>if n<=x.hi then some (max x.lo n)else j0k l n
def w01:List Iv->Int->Int
 |[],n=>n
 |x::l,n=>w01 l (if x.lo<=n/\n<=x.hi then x.hi+1 else n)
def g0z:List (List Iv)->Int->Option Int
 |[],n=>some n
 |l::I,n=>match j0k l n with|some m=>g0z I m|none=>none
def q1n:List (List Iv)->Int->Int
 |[],n=>n
 |l::O,n=>q1n O (w01 l n)
def z00:∀(l:List Iv) (n:Int),Sep l->match j0k l n with|some m=>M l m/\n<=m/\∀k,M l k->n<=k->m<=k|none=>∀k,M l k->k<n
 |[],n,_=>λk h=>absurd h Vz
 |x::l,n,h=>by
  have hx:=h.1 x (by simp);have sx:=f0b h;rw[j0k];by_cases h1:n<=x.hi
  ·rw[if_pos h1];refine⟨Eg.2 (.inl (by omega)),by omega,λk hk hn=>?_⟩;rcases Eg.1 hk with k1|k1
   ·omega
   have:=sx k k1;omega
  rw[if_neg h1];have ih:=z00 l n (Co h);cases hc:j0k l n with
  |some m=>
   rw[hc]at ih;obtain⟨i1,i2,i3⟩:=ih;refine⟨Eg.2 (.inr i1),i2,λk hk hn=>?_⟩;rcases Eg.1 hk with k1|k1
   ·omega
   exact i3 k k1 hn
  |none=>
   rw[hc]at ih;intro k hk;rcases Eg.1 hk with k1|k1
   ·omega
   exact ih k k1
def Zp:∀(l:List Iv) (n:Int),n<=w01 l n/\(∀k,n<=k->¬M l k->w01 l n<=k)/\(w01 l n=n->¬M l n)
 |[],n=>⟨xK _,λk h _=>h,λ_=>Vz⟩
 |x::l,n=>by
  rw[w01];by_cases h:x.lo<=n/\n<=x.hi
  ·rw[if_pos h];obtain⟨i1,i2,i3⟩:=Zp l (x.hi+1);refine⟨by omega,λk hk hn=>i2 k ?_ (λhm=>hn (Eg.2 (.inr hm))),λe=>by omega⟩;have:¬(x.lo<=k/\k<=x.hi):=λhm=>hn (Eg.2 (.inl hm));omega
  rw[if_neg h];obtain⟨i1,i2,i3⟩:=Zp l n;exact⟨i1,λk hk hn=>i2 k hk λhm=>hn (Eg.2 (.inr hm)),λe hm=>(Eg.1 hm).elim h (i3 e)⟩
def z0c:∀(I:List (List Iv)) (n:Int),(∀l∈I,Sep l)->match g0z I n with|some m=>n<=m/\(∀k,n<=k->(∀l∈I,M l k)->m<=k)/\(m=n->∀l∈I,M l n)|none=>∀k,n<=k->¬ ∀l∈I,M l k
 |[],n,_=>⟨xK _,λk h _=>h,λ_ l h=>by cases h⟩
 |l::I,n,h=>by
  have h1:=z00 l n (h l (by simp));rw[g0z];cases hc:j0k l n with
  |none=>rw[hc]at h1;intro k hk hm;have:=h1 k (hm l (by simp));omega
  |some m=>
   rw[hc]at h1;obtain⟨a1,a2,a3⟩:=h1;have ih:=z0c I m λl hl=>h l (by simp[hl]);simp only;cases hd:g0z I m with
   |none=>rw[hd]at ih;intro k hk hm;exact ih k (a3 k (hm l (by simp)) hk) λj hj=>hm j (by simp[hj])
   |some m'=>
    rw[hd]at ih;obtain⟨b1,b2,b3⟩:=ih;refine⟨by omega,λk hk hm=>b2 k (a3 k (hm l (by simp)) hk) λj hj=>hm j (by simp[hj]),λe j hj=>?_⟩;have e1:m=n:=by omega
    rcases zX.1 hj with rfl|hj
    ·rw[<-e1];exact a1
    rw[<-e1];exact b3 (by omega) j hj
def y0v:∀(O:List (List Iv)) (n:Int),n<=q1n O n/\(∀k,n<=k->(∀l∈O,¬M l k)->q1n O n<=k)/\(q1n O n=n->∀l∈O,¬M l n)
 |[],n=>⟨xK _,λk h _=>h,λ_ l h=>by cases h⟩
 |l::O,n=>by
  rw[q1n];obtain⟨h1,h2,h3⟩:=Zp l n;obtain⟨i1,i2,i3⟩:=y0v O (w01 l n);refine⟨by omega,λk hk hm=>i2 k (h2 k hk (hm l (by simp))) λj hj=>hm j (by simp[hj]),λe j hj=>?_⟩;have e1:w01 l n=n:=by omega
  rcases zX.1 hj with rfl|hj
  ·exact h3 e1
  have:=i3 (by rw[e,e1]) j hj;rw[e1]at this;exact this
def g1v(I O:List (List Iv))(n:Int):Option Int:=match g0z I n with|some m=>some (q1n O m)|none=>none
def Ha(I O:List (List Iv))(k:Int):Prop:=(∀l∈I,M l k)/\∀l∈O,¬M l k
def u1z(I O:List (List Iv))(n:Int)(h:∀l∈I,Sep l):match g1v I O n with|some m=>n<=m/\(∀k,n<=k->Ha I O k->m<=k)/\(m=n->Ha I O n)|none=>∀k,n<=k->¬Ha I O k:=by
 have h1:=z0c I n h;unfold g1v;cases hc:g0z I n with
 |none=>rw[hc]at h1;exact λk hk hg=>h1 k hk hg.1
 |some m=>
  rw[hc]at h1;obtain⟨a1,a2,a3⟩:=h1;obtain⟨b1,b2,b3⟩:=y0v O m;refine⟨by omega,λk hk hg=>b2 k (a2 k hk hg.1) hg.2,λe=>?_⟩;have e1:m=n:=by omega
  refine⟨a3 e1,?_⟩;have:=b3 (by omega);rw[e1]at this;exact this
def S0(t:Nat)(ps:List Prd):List (List Iv):=ps.map λp=>p.getD t []
structure FitP (T:Nat) (ins outs:List Prd) (P:Prd):Prop where
 wf:PWf T P
 mem:∀t n,PM P t n↔t<T/\inR n/\(∀p∈ins,PM p t n)/\∀p∈outs,¬PM p t n
def C1{ins outs:List Prd}{t:Nat}{n:Int}:Ha (S0 t ins) (S0 t outs) n↔(∀p∈ins,PM p t n)/\∀p∈outs,¬PM p t n:=by
 unfold Ha S0;constructor
 ·rintro⟨h1,h2⟩;exact⟨λp hp=>Ua.2 (h1 _ (zQ.2 ⟨p,hp,rfl⟩)),λp hp hm=>h2 _ (zQ.2 ⟨p,hp,rfl⟩) (Ua.1 hm)⟩
 rintro⟨h1,h2⟩;refine⟨λl hl=>?_,λl hl hm=>?_⟩
 ·obtain⟨p,hp,rfl⟩:=zQ.1 hl;exact Ua.1 (h1 p hp)
 obtain⟨p,hp,rfl⟩:=zQ.1 hl;exact h2 p hp (Ua.2 hm)
def y0t(P:Prd):Option Sy:=if Wj P then none else some (Ql P)
def FitP.some{T:Nat}{ins outs:List Prd}{P:Prd}(h:FitP T ins outs P){t:Nat}{n:Int}(ht:t<T)(hb:∀t',t'<t->∀k,¬PM P t' k)(hn:inR n)(hg:Ha (S0 t ins) (S0 t outs) n)(hl:∀k,inR k->Ha (S0 t ins) (S0 t outs) k->n<=k):y0t P= .some ⟨t,n⟩:=by
 have hm:PM P t n:=(h.mem t n).2 ⟨ht,hn,C1.1 hg⟩;obtain⟨g1,g2,g3⟩:=Te h.wf ⟨t,n,hm⟩;unfold y0t;rw[if_neg (by rw[(Tw h.wf).2 ⟨t,n,hm⟩];simp)]
 congr 1
 rcases g3 ⟨t,n⟩ ⟨by simp,by simpa using ht,hn⟩ (by simpa using hm)with e|e
 ·exact e
 exfalso;have k:=(h.mem _ _).1 g2;rcases e with e|⟨e1,e2⟩
 ·simp only at e;exact hb _ (by have:=g1.1;omega) _ g2
 simp only at e1 e2;have e3:(Ql P).ty.toNat=t:=by omega
 rw[e3]at k;have:=hl _ k.2.1 (C1.2 k.2.2);omega
def FitP.none{T:Nat}{ins outs:List Prd}{P:Prd}(h:FitP T ins outs P)(hb:∀t',t'<T->∀k,¬PM P t' k):y0t P= .none:=by unfold y0t;rw[if_pos ((T8 h.wf).2 λt n hm=>hb t (h.wf.lt hm).1 n hm)]
def FitP.no{T:Nat}{ins outs:List Prd}{P:Prd}(h:FitP T ins outs P){t:Nat}(hb:∀k,inR k->¬Ha (S0 t ins) (S0 t outs) k)(k:Int):¬PM P t k:=λhm=>by have:=(h.mem t k).1 hm;exact hb k this.2.1 (C1.2 this.2.2)
def Ze:Option Mv->List Prd
 |some m=>[m.on]
 |none=>[]
def Ku(a:Aut)(s:Int):Option Mv->List Prd
 |some _=>[]
 |none=>(mvS a s).map (·.on)
def w18{a:Aut}(h:OkA a){s:Int}{o:Option Mv}(ho:o∈Wk a s):FitP a.types.toNat (Ze o) (Ku a s o) (y1v a s o):=by
 have hw:=q0i h ho;refine⟨hw,λt n=>?_⟩;cases o with
 |some m=>
  constructor
  ·intro hm;exact⟨(hw.lt hm).1,(hw.lt hm).2,λp hp=>by rw[zO.1 hp];exact hm,λp hp=>by cases hp⟩
  rintro⟨_,_,h1,_⟩;exact h1 m.on (zO.2 rfl)
 |none=>
  unfold y1v Ku Ze;rw[Cc (Ao (Jz h s)),Jv (Jz h s)];constructor
  ·rintro⟨⟨h1,h2⟩,h3⟩;exact⟨h1,h2,λp hp=>(by cases hp),λp hp hm=>h3 ⟨p,hp,hm⟩⟩
  rintro⟨h1,h2,_,h3⟩;exact⟨⟨h1,h2⟩,λ⟨p,hp,hm⟩=>h3 p hp hm⟩
def q2u{a b:Aut}(ha:OkA a)(hb:OkA b)(ht:b.types=a.types){s:Int×Int}{o r:Option Mv}(ho:o∈Wk a s.1)(hr:r∈Wk b s.2):FitP a.types.toNat (Ze o++Ze r) (Ku a s.1 o++Ku b s.2 r) (w0m a b s o r):=by
 have f1:=w18 ha ho;have f2:=w18 hb hr;rw[ht]at f2;refine⟨Tu f1.wf f2.wf.1,λt n=>?_⟩;unfold w0m;rw[Eo f1.wf.1 f2.wf.1,f1.mem,f2.mem];constructor
 ·rintro⟨⟨h1,h2,h3,h4⟩,_,_,h5,h6⟩;exact⟨h1,h2,λp hp=>(zT.1 hp).elim (h3 p) (h5 p),λp hp=>(zT.1 hp).elim (h4 p) (h6 p)⟩
 rintro⟨h1,h2,h3,h4⟩;exact⟨⟨h1,h2,λp hp=>h3 p (yV _ hp),λp hp=>h4 p (yV _ hp)⟩,h1,h2,λp hp=>h3 p (vI _ hp),λp hp=>h4 p (vI _ hp)⟩
def v1b(a b:Aut)(s:Int×Int)(o r:Option Mv):j11 a b s o r=(y0t (w0m a b s o r)).map λx=>(x,(S1 o,S1 r)):=by
 unfold j11 y0t;by_cases h:Wj (w0m a b s o r)=true
 ·rw[if_pos h,if_pos h];rfl
 rw[if_neg h,if_neg h];rfl
structure Vst where
 s:Int×Int
 fr:Nat
 on:Sy
 fst:Bool
structure VOk (V:List Vst) (L:List ((Int×Int)×List Sy)):Prop where
 len:V.length=L.length
 key:∀(i:Nat) (v:Vst) (e:(Int×Int)×List Sy),V[i]?=some v->L[i]?=some e->v.s=e.1
 way:∀(i:Nat) (v:Vst) (e:(Int×Int)×List Sy),V[i]?=some v->L[i]?=some e->(v.fst=true/\e.2=[])\/(v.fst=false/\v.fr<i/\∃e',L[v.fr]?=some e'/\e.2=e'.2++[v.on])
def VOk.start:VOk [⟨(0,0),0,⟨0,0⟩,true⟩] [((0,0),[])]:=by
 refine⟨rfl,λi v e hv he=>?_,λi v e hv he=>?_⟩
 ·have hi:i=0:=by have:=(zB.1 hv).1;simp at this;omega
  subst hi;simp at hv he;rw[<-hv,<-he]
 have hi:i=0:=by have:=(zB.1 hv).1;simp at this;omega
 subst hi;simp at hv he;rw[<-hv,<-he];exact .inl ⟨rfl,rfl⟩
def VOk.push{V:List Vst}{L:List ((Int×Int)×List Sy)}(h:VOk V L){n:Nat}{e:(Int×Int)×List Sy}(hn:L[n]?=some e)(t:Int×Int)(x:Sy):VOk (V++[⟨t,n,x,false⟩]) (L++[(t,e.2++[x])]):=by
 have z6:=(zB.1 hn).1;have hl:=h.len;refine⟨by simp[hl],λi v d hv hd=>?_,λi v d hv hd=>?_⟩
 ·by_cases hi:i<L.length
  ·rw[zF (by omega)]at hv hd;exact h.key i v d hv hd
  have z1:i=L.length:=by have:=(zB.1 hd).1;simp at this;omega
  rw[zH (by omega),z1]at hv hd;simp[hl]at hv hd;rw[<-hv,<-hd]
 by_cases hi:i<L.length
 ·rw[zF (by omega)]at hv hd;rcases h.way i v d hv hd with k|⟨k1,k2,e',k3,k4⟩
  ·exact .inl k
  exact .inr ⟨k1,k2,e',by rw[zF (by omega)];exact k3,k4⟩
 have z1:i=L.length:=by have:=(zB.1 hd).1;simp at this;omega
 rw[zH (by omega),z1]at hv hd;simp[hl]at hv hd;rw[<-hv,<-hd];exact .inr ⟨rfl,by simp;omega,e,by rw[zF z6];exact hn,rfl⟩
def VOk.pairs{V:List Vst}{L:List ((Int×Int)×List Sy)}(h:VOk V L):V.map (·.s)=L.map (·.1):=by
 refine xZ (by simp[h.len]) λi h1 h2=>?_;have hl:i<L.length:=by simpa using h2
 have hv:i<V.length:=by rw[h.len];exact hl
 simp only[uA];exact h.key i _ _ (zI hv) (zI hl)
structure DInv (a b:Aut) (L:List ((Int×Int)×List Sy)):Prop where
 nd:(L.map (·.1)).Nodup
 rng:∀e∈L,inD a e.1.1/\inD b e.1.2
def DInv.len{a b:Aut}{L:List ((Int×Int)×List Sy)}(h:DInv a b L):L.length<=(a.fin.length+1) * (b.fin.length+1):=by
 have e:L.length=(L.map (·.1)).length:=by rw[yO]
 rw[<-V6,e];refine Ts _ _ h.nd λx hx=>?_;obtain⟨e,he,rfl⟩:=zQ.1 hx;exact Mm (h.rng e he).1 (h.rng e he).2
def DInv.add{a b:Aut}{L:List ((Int×Int)×List Sy)}(h:DInv a b L){t:Int×Int}{w:List Sy}(ht:inD a t.1/\inD b t.2)(hn:t∉L.map (·.1)):DInv a b (L++[(t,w)]):=by
 refine⟨?_,λe he=>?_⟩
 ·rw[yR,List.nodup_append];refine⟨h.nd,by simp,λx hx y hy e=>?_⟩;simp only[List.map_cons,List.map_nil,zO]at hy;exact hn (by rw[<-hy,<-e];exact hx)
 rcases zT.1 he with he|he
 ·exact h.rng e he
 rw[zO.1 he];exact ht
def DInv.start{a b:Aut}(ha:OkA a)(hb:OkA b):DInv a b [((0,0),[])]:=by have:=ha.fin;have:=hb.fin;exact⟨by simp,λe he=>by rw[zO.1 he];exact⟨.inr ⟨xK _,by simp only;omega⟩,.inr ⟨xK _,by simp only;omega⟩⟩⟩
def q28{a b:Aut}(ha:Dta a)(hb:Dta b)(ht:b.types=a.types){s:Int×Int}{e:Sy×(Int×Int)}(he:e∈Dh a b s):inD a e.2.1/\inD b e.2.2:=by obtain⟨_,h2⟩:=(Z9 ha hb ht s).mem e he;rw[h2];exact⟨y0e ha.ok _ _,y0e hb.ok _ _⟩
end Go.Abs
