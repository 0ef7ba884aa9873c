/- Part Sh of the proof: an abstract machine over the model, and what the functions of the program hand back in its terms. No condition. -/
import Derived.Test.YtjmkolhkojgjpaaGreatDoorSg
import Derived.Test.YtjmkolhkojgjpaaGreatDoorSc
import Derived.Test.YtjmkolhkojgjpaaGreatDoorSd
import Derived.Test.YtjmkolhkojgjpaaGreatDoorSf
import Derived.Test.YtjmkolhkojgjpaaGreatDoorSe
set_option linter.all false
open List renaming range→yD,take_length→zX,getElem?_eq_getElem→zF,take_succ_eq_append_getElem→zJ,foldl_append→xR,range_succ→w_,length_cons→yB,length_take→yY,length_append→zW,mem_of_getElem?→zD,mem_append→zO,mem_singleton→zK,mem_or_eq_of_mem_set→vK,mem_of_mem_take→yU,getD→yR,getElem_mem→zG,getElem?_append_right→zC,getElem?_set_self→zH,getElem?_set_ne→zB,append_assoc→xX,getElem?_append_left→zE,mem_cons→zU,not_mem_nil→vL,map_append→yM,length_map→zV,append_nil→xQ,mem_append_left→y_,take_of_length_le→zM,flatMap_append→wZ,length_drop→yW,map→xH,mem_map→zN,mem_of_mem_drop→wG,map_take→yP,map_drop→yQ,map_cons→yK,mergeSort_perm→wI,all_eq_true→zP,mem_append_right→vA,getElem?_eq_some_iff→zA
open Nat renaming zero_le→xE,mul_le_mul→vM
open Int renaming le_refl→yG
open Bool renaming not_eq_false→uY
open Prod renaming ext→tG
set_option maxHeartbeats 16000000
set_option linter.unusedSimpArgs false
set_option maxRecDepth 100000
namespace Go.Abs
open Go Go.Proofs Go.Maps Go.RowKit
theorem j0a{a:Aut}(h:(O5 a).1=0):OkA a∧∃cl Q,O5 a=(0,cl,Q)∧Fh a cl=some Q∧Cls a cl∧Sub a cl Q∧cl.length≤256∧∀c∈cl,Hd [c]=0∧Wk c=false∧Wy a (Qn c)∧PWf a.types.toNat c∧∀s∈c,s.length≤256:=by
 have h0:Wj a=0:=by
  by_cases h0:Wj a=0
  ·exact h0
  ·rw[g0g h0]at h;exact absurd h h0
 have z1:=(Oc a).1 h0;have hm:(Rn a.types (onA a)).1=0:=by
  by_cases hm:(Rn a.types (onA a)).1=0
  ·exact hm
  ·rw[O5,if_neg (fun k=>k h0),if_pos hm]at h;exact absurd h hm
 obtain⟨cl,h1,h2,h3,h4⟩:=Vl z1 hm;refine⟨z1,cl,?_⟩;rcases Cr z1 with h5|⟨Q,h5,h6,h7,h8⟩
 ·rw[h5]at h;simp at h
 ·have z6:Qy a.types.toNat (onA a)=cl:=by
   have h9:(O5 a).2.1=cl:=by
    rw[O5,if_neg (fun k=>k h0),if_neg (fun k=>k hm),h1];split
    ·rename_i hn;rw[O5,if_neg (fun k=>k h0),if_neg (fun k=>k hm),h1]at h;simp only[hn]at h;simp at h
    ·rfl
   rw[h5]at h9;exact h9
  rw[z6]at h5 h6 h7 h8;exact⟨Q,h5,h6,h2,h7,h3,h4⟩
theorem x14(H:List AObj)(id:Nat)(a:Aut)(hid:H[id]? =some (.vars (Qp a)))(s:Int)(h0:0≤s)(h1:s<a.fin.length):FC Tryz.prog 48 [.i s,.vptr id 0] H (fun r H'=>r= .bool (a.fin.getD s.toNat false)∧H'=H):=by
 refine Ef tOk Tryz.func48 rfl Tryz.results48 rfl (by simp[Tryz.ntmps48]) ?_;rw[Tryz.ntmps48];simp only[Qe];have h2:s.toNat<a.fin.length:=by omega
 repeat first|(refine r_ ?_;simp[hid,h0,h1,h2])|refine q_ ?_
def stepG(a:Aut)(Q:List (List Int))(n:Nat)(l:List Int)(g:List Mv)(c:Prd):List Mv:=match x0k Q (Q0 a l (Qn c))with|some t=>Ux n g t c|none=>g
def Ev(a:Aut)(cl:List Prd)(Q:List (List Int))(n:Nat)(l:List Int)(k:Nat):List Mv:=(cl.take k).foldl (stepG a Q n l) []
def Dr(a:Aut)(cl:List Prd)(Q:List (List Int))(n:Nat):List Mv:=(yD n).flatMap fun n=>Vv a cl Q n (Q.getD n [])
theorem Gw(a:Aut)(cl:List Prd)(Q:List (List Int))(n:Nat)(l:List Int):Ev a cl Q n l cl.length=Vv a cl Q n l:=by rw[Ev,zX];rfl
theorem V5(a:Aut)(cl:List Prd)(Q:List (List Int))(n:Nat)(l:List Int){k:Nat}{c:Prd}(h:cl[k]? =some c):Ev a cl Q n l (k+1)=stepG a Q n l (Ev a cl Q n l k) c:=by
 have hk:=Ty h;have hc:cl[k]=c:=by rw[zF hk]at h;exact Option.some.inj h
 rw[Ev,zJ hk,xR,hc];rfl
theorem Xd(a:Aut)(cl:List Prd)(Q:List (List Int))(n:Nat):Dr a cl Q (n+1)=Dr a cl Q n++Vv a cl Q n (Q.getD n []):=by simp[Dr,w_]
theorem u04(n:Nat)(g:List Mv)(to:Nat)(c:Prd):(Ux n g to c).length≤g.length+1:=by
 unfold Ux;split
 ·simp
 ·split<;>simp
theorem Xx(a:Aut)(Q:List (List Int))(n:Nat)(l:List Int):∀(cl:List Prd) (g:List Mv),(cl.foldl (stepG a Q n l) g).length≤g.length+cl.length
 |[],g=>by simp
 |c::cl,g=>by
  have h1:=Xx a Q n l cl (stepG a Q n l g c);have h2:(stepG a Q n l g c).length≤g.length+1:=by
   unfold stepG;split
   ·exact u04 _ _ _ _
   ·omega
  rw[List.foldl_cons,yB];omega
theorem Hb(a:Aut)(cl:List Prd)(Q:List (List Int))(n:Nat)(l:List Int)(hc:cl.length≤256)(k:Nat):(Ev a cl Q n l k).length≤256:=by have:=Xx a Q n l (cl.take k) [];rw[yY]at this;rw[Ev];simp at this;omega
theorem z1p(a:Aut)(cl:List Prd)(Q:List (List Int))(hq:Q.length≤256)(hc:cl.length≤256):∀n,n<Q.length→(Dr a cl Q n).length≤n * 256∧(Dr a cl Q n).length≤65536:=by
 have:∀n,(Dr a cl Q n).length≤n * 256:=fun n=>by
  induction n with
  |zero=>simp[Dr]
  |succ n ih=>
   have h:=Hb a cl Q n (Q.getD n []) hc cl.length;rw[Gw]at h;have:Dr a cl Q (n+1)=Dr a cl Q n++Vv a cl Q n (Q.getD n []):=by simp[Dr,w_]
   rw[this,zW];omega
 exact fun n hn=>⟨this n,by have:=this n;omega⟩
theorem y0y(a:Aut)(cl:List Prd)(Q:List (List Int))(n:Nat)(l:List Int):Ev a cl Q n l 0=[]:=rfl
theorem q1s{a:Aut}{Q:List (List Int)}(z1:∀l∈Q,l≠[]){n:Nat}{l:List Int}{g:List Mv}{c:Prd}(h:Q0 a l (Qn c)=[]):stepG a Q n l g c=g:=by
 unfold stepG;rw[h];cases hq:x0k Q []with
 |none=>rfl
 |some t=>exact absurd rfl (z1 _ (zD (G9 hq)))
theorem f0b{a:Aut}{Q:List (List Int)}(hn:Q.Nodup){n t:Nat}{l:List Int}{g:List Mv}{c:Prd}(h:Q[t]? =some (Q0 a l (Qn c))):stepG a Q n l g c=Ux n g t c:=by unfold stepG;rw[v0l hn h]
theorem q12{T n to:Nat}{g:List Mv}{c:Prd}(hg:∀m∈g,PWf T m.on)(hc:PWf T c):∀m∈Ux n g to c,PWf T m.on:=by
 intro m hm;unfold Ux at hm;split at hm
 ·rcases zO.1 hm with hm|hm
  ·exact hg m hm
  ·rw[zK.1 hm];exact hc
 ·split at hm
  ·rename_i m2 z1;rcases vK hm with hm|rfl
   ·exact hg m hm
   ·exact Fg (hg _ (zD z1)) hc
  ·exact hg m hm
theorem z1w{a:Aut}{T:Nat}{Q:List (List Int)}{n:Nat}{l:List Int}{cl:List Prd}(z1:∀c∈cl,PWf T c):∀k,∀m∈Ev a cl Q n l k,PWf T m.on:=by
 have:∀(cl:List Prd) (g:List Mv),(∀c∈cl,PWf T c)→(∀m∈g,PWf T m.on)→∀m∈cl.foldl (stepG a Q n l) g,PWf T m.on:=by
  intro cl;induction cl with
  |nil=>intro g _ hg;exact hg
  |cons c cl ih=>
   intro g hc hg;refine ih _ (fun x hx=>hc x (by simp[hx])) fun m hm=> ?_;unfold stepG at hm;split at hm
   ·exact q12 hg (hc c (by simp)) m hm
   ·exact hg m hm
 exact fun k=>this _ _ (fun c hc=>z1 c (yU hc)) (fun m hm=>by simp at hm)
def AObj.isLp:AObj→Bool
 | .lp .. =>true
 |_=>false
theorem x16{T:Nat}{c:Prd}(hw:PWf T c)(hz:∀s∈c,s.length≤256){i:Nat}(hi:i<T):(Q7 [c] i).length≤1000000:=by
 have h:i<c.length:=by rw[hw.1];exact hi
 have:Q7 [c] i=c[i]:=by simp[Q7,yR,h]
 rw[this];have:=hz _ (zG h);omega
theorem u1z{T:Nat}{p c:Prd}(hp:PWf T p)(hw:PWf T c)(h1:∀s∈p,s.length≤65536)(hz:∀s∈c,s.length≤256){i:Nat}(hi:i<T):(Q7 [p,c] i).length≤1000000:=by
 have h:i<c.length:=by rw[hw.1];exact hi
 have h2:i<p.length:=by rw[hp.1];exact hi
 have:Q7 [p,c] i=p[i]++c[i]:=by simp[Q7,yR,h,h2]
 rw[this,zW];have:=hz _ (zG h);have:=h1 _ (zG h2);omega
theorem c0s(a:Aut)(cl:List Prd)(Q:List (List Int)):Dr a cl Q Q.length=(Uc a cl Q).mv:=rfl
theorem Mw(a:Aut)(cl:List Prd)(Q:List (List Int)):(Uc a cl Q).fin=Q.map (Is a):=rfl
theorem w0l(a:Aut)(cl:List Prd)(Q:List (List Int)):(Uc a cl Q).types=a.types:=rfl
theorem Mu(d:Aut):f07 d=if Xp d then(5,O1)else(0,d):=rfl
theorem u0r(a:Aut)(cl:List Prd)(Q:List (List Int))(hq:Q.length≤256)(hc:cl.length≤256):(Dr a cl Q Q.length).length≤65536:=by
 have:∀n,(Dr a cl Q n).length≤n * 256:=fun n=>by
  induction n with
  |zero=>simp[Dr]
  |succ n ih=>have h:=Hb a cl Q n (Q.getD n []) hc cl.length;rw[Gw]at h;rw[Xd,zW];omega
 have:=this Q.length;omega
theorem v06{p c:Prd}{A B:Nat}(hp:∀s∈p,s.length≤A)(hc:∀s∈c,s.length≤B):∀s∈Ri p c,s.length≤A+B:=by intro s hs;obtain⟨i,hi,rfl⟩:=List.getElem_of_mem hs;simp only[Ri,List.length_zipWith]at hi;simp only[Ri,List.getElem_zipWith];refine Nat.le_trans (c00 _) ?_;rw[zW];have h1:=hp _ (zG (by omega:i<p.length));have h2:=hc _ (zG (by omega:i<c.length));omega
theorem z11{a:Aut}{Q:List (List Int)}{n:Nat}{l:List Int}{cl:List Prd}(z6:∀c∈cl,∀s∈c,s.length≤256)(z8:cl.length≤256):∀k,∀m∈Ev a cl Q n l k,∀s∈m.on,s.length≤65536:=by
 have key:∀(cl:List Prd) (g:List Mv) (B:Nat),(∀c∈cl,∀s∈c,s.length≤256)→(∀m∈g,∀s∈m.on,s.length≤B)→∀m∈cl.foldl (stepG a Q n l) g,∀s∈m.on,s.length≤B+cl.length * 256:=by
  intro cl;induction cl with
  |nil=>intro g B _ hg m hm s hs;have:=hg m hm s hs;simp;omega
  |cons c cl ih=>
   intro g B hc hg m hm s hs;have h1:∀m∈stepG a Q n l g c,∀s∈m.on,s.length≤B+256:=by
    intro m hm s hs;have z1:=hc c (by simp);unfold stepG Ux at hm;split at hm
    ·split at hm
     ·rcases zO.1 hm with hm|hm
      ·have:=hg m hm s hs;omega
      ·rw[zK.1 hm]at hs;have:=z1 s hs;omega
     ·split at hm
      ·rename_i m2 z7;rcases vK hm with hm|rfl
       ·have:=hg m hm s hs;omega
       ·exact v06 (hg _ (zD z7)) z1 s hs
      ·have:=hg m hm s hs;omega
    ·have:=hg m hm s hs;omega
   have:=ih (stepG a Q n l g c) (B+256) (fun x hx=>hc x (by simp[hx])) h1 m hm s hs;rw[yB];omega
 intro k m hm s hs;have:=key (cl.take k) [] 0 (fun c hc=>z6 c (yU hc)) (fun m hm=>by simp at hm) m hm s hs;rw[yY]at this;have:min k cl.length≤256:=by omega
 omega
theorem Cz(a:Aut)(cl:List Prd)(Q:List (List Int)):Dr a cl Q 0=[]:=rfl
attribute [local irreducible] O5 Q0 Qn mpT Rm f07 Uc Dr Ev stepG Is Xp
theorem Of(a:Aut):PC Tryz.prog 15 [encA a] (fun r=>r= .tup [encA (Ro a).2,.i (Ro a).1]):=by
 refine Qh tOk Tryz.func15 rfl Tryz.results15 rfl (by simp[Tryz.ntmps15]) ?_;rw[Tryz.ntmps15];simp only[Qe];simp only[encA];repeat first|(refine r_ ?_;simp)|refine q_ ?_
 have yd:=y04 [.vars (Qp a),.vars [.i 0,.nils,.nils]] a;refine We rfl rfl yd rfl ?_;rintro res H' ⟨hk,⟨he,rfl⟩|⟨he,r,p,m,rfl,ht,hr,hp,hm⟩⟩
 ·have hd:Ro a=((O5 a).1,O1):=by rw[Ro,if_pos he]
  rw[hd];have k0:=hk 0 (by simp);have k1:=hk 1 (by simp);simp at k0 k1;simp;repeat first|(refine r_ ?_;simp[Qd k1])|refine q_ ?_
  refine Qa rfl (fun _=> ?_) (fun h=>by simp at h;exact absurd h he);have k2:∀L Y,((H'++L).set 1 Y)[1]? =some Y:=fun L Y=>Qq (Qd k1 L) Y;repeat first|(refine r_ ?_;simp[Qd k1,k2])|refine q_ ?_
  exact⟨rfl,rfl,rfl⟩
 ·obtain⟨zn,cl,Q,x5,vp,xw,z8,zd,zo⟩:=j0a he;have hd:Ro a=f07 (Uc a cl Q):=by rw[Ro,x5];simp
  rw[hd];rw[x5]at ht;simp only at ht;have k0:=hk 0 (by simp);have k1:=hk 1 (by simp);simp at k0 k1;have xx:=ht.t;have vq:=ht.s;simp;repeat first|(refine r_ ?_;simp[Qd k1])|refine q_ ?_
  refine Qa rfl (fun h=>by simp[he]at h) (fun _=> ?_);have k0a:∀(L:List AObj) hh,(H'++L)[0]'hh= .vars (Qp a):=fun L hh=>by have:=Qd k0 L;rw[zF hh]at this;exact Option.some.inj this
  have ye:=fun L=>Qd (G:=L) xx;repeat first|(refine r_ ?_;simp[Qd k0,k0a,ye])|refine q_ ?_
  have xy:=Qi ht.t;have xz:=Qi ht.s;have w8:=Qi ht.n;refine Q3 (sl':=[(1,.vptr 0 0),(2,.vptr 1 0),(3,.i 0),(4,.vptr H'.length 0),(6,.vptr (H'.length+1) 0),(30,.sl p 1 0 Q.length),(31,.i Q.length),(32,.i (0:Nat))]) ?_ (by simp);refine R3 (H'.length+1) 1 4 1 (xs:=[.i a.types,.nils,.nils]) (by rw[zC (by omega)];simp) rfl ?_;refine R7 fun Z1 zp=> ?_;have z1l:Z1.length=H'.length+3:=by rw[zp];simp
  have z1c:Z1[H'.length+1]? =some (.vars [.i a.types,.sl (H'.length+2) 1 0 0,.nils]):=by rw[zp,zH (by simp)];simp
  have z1f:Z1[H'.length+2]? =some (.arr 4 1 []):=by rw[zp,zB (by omega),zC (by simp)];simp
  have z1b:Z1[H'.length]? =some (.vars [.vptr r 0]):=by rw[zp,zB (by omega),xX,zC (by omega)];simp
  have z1k:∀i,i<H'.length→Z1[i]? =H'[i]? :=fun i hi=>by rw[zp,zB (by omega),xX,zE hi]
  clear zp;refine R3 (H'.length+1) 2 73 3 z1c rfl ?_;refine R7 fun Z2 y6=> ?_;have z2c:Z2[H'.length+1]? =some (.vars [.i a.types,.sl (H'.length+2) 1 0 0,.sl (H'.length+3) 3 0 0]):=by rw[y6,zH (by simp;omega)];simp[z1l]
  have z2v:Z2[H'.length+3]? =some (.arr 73 3 []):=by rw[y6,zB (by omega),zC (by omega)];simp[z1l]
  have z2k:∀i,i<Z1.length→i≠H'.length+1→Z2[i]? =Z1[i]? :=fun i hi wa=>by rw[y6,zB (Ne.symm wa),zE hi]
  clear y6;have hb:=(z2k _ (by omega) (by omega)).trans z1b;have x6:=(z2k _ (by omega) (by omega)).trans z1f;have hold:∀i,i<H'.length→Z2[i]? =H'[i]? :=fun i hi=>(z2k i (by omega) (by omega)).trans (z1k i hi);have x7:=(hold 0 (Qi k0)).trans k0;have x8:=(hold 1 (Qi k1)).trans k1;obtain⟨zh,z7⟩:∃zh:List (Nat×AObj),zh=[(0,.vars (Qp a)),(1,.vars [.i 0,.nils,.nils]),(H'.length,.vars [.vptr r 0]),(r,.vars [.i a.types,.list (a.fin.map .bool),.list (a.mv.map encMv),LP cl,.sl p 1 0 Q.length,.mref m]),(p,.arr 47 1 (LQ Q)),(m,mpT (Q.map Rm))]:=⟨_,rfl⟩
  have x9:Fx zh Z2:=by
   rw[z7];intro x hx;simp only[zU,vL,or_false]at hx;rcases hx with rfl|rfl|rfl|rfl|rfl|rfl
   ·exact x7
   ·exact x8
   ·exact hb
   ·exact(hold r xy).trans ht.t
   ·exact(hold p xz).trans ht.s
   ·exact(hold m w8).trans ht.n
  have wb:=z8.lim;have xa:∀x∈Q,P0 x:=fun x hx=>by have he:=z8.elem x hx;have:=B5 he.1 he.2;have:=zn.fin;exact⟨z8.ne x hx,by omega,fun z hz=>by have:=he.2 z hz;omega⟩
  have we:=zn.fin;generalize H'.length+1=c at *;generalize H'.length=b at *;refine Ql (Qb (sl':=[(1,.vptr 0 0),(2,.vptr 1 0),(3,.i 0),(4,.vptr b 0),(6,.vptr c 0),(30,.sl p 1 0 Q.length),(31,.i Q.length),(32,.i (0:Nat))]) ?_ (by simp))
  refine Qm (F:=fun(u:Nat×Nat×Nat×List AObj)=>⟨[(1,.vptr 0 0),(2,.vptr 1 0),(3,.i 0),(4,.vptr b 0),(6,.vptr c 0),(30,.sl p 1 0 Q.length),(31,.i Q.length),(32,.i u.1)],u.2.2.2⟩)
   (fun u=>u.1≤Q.length∧Fx zh u.2.2.2∧u.2.2.2[c]? =some (.vars [.i a.types,.sl u.2.1 1 0 u.1,.sl u.2.2.1 3 0 (Dr a cl Q u.1).length])∧u.2.2.2[u.2.1]? =some (.arr 4 1 (((Q.take u.1).map (Is a)).map .bool))∧u.2.2.2[u.2.2.1]? =some (.arr 73 3 ((Dr a cl Q u.1).map encMv))) (fun u=>Q.length - u.1) ?_ (0,_,_,Z2) ⟨by simp,x9,by rw[Cz];exact z2c,by simpa using x6,by rw[Cz];exact z2v⟩
  clear x9 z2c x6 z2v hb x7 x8 hold z2k z1k z1b z1f z1c z1l;clear Z2 Z1;rintro⟨n,f,v,G⟩ ⟨hn,hF,gc,gf,gv⟩ ih;simp only at hn hF gc gf gv ih ⊢;repeat first|(refine r_ ?_;simp)|refine q_ ?_
  refine Qa rfl (fun wg=> ?_) (fun y8=> ?_)
  ·have ze:n<Q.length:=by simpa using wg
   have hw:IntKind.i64.wrap ((n:Int)+1)=n+1:=wrap_i64 _ (by omega) (by omega);have gs:G[p]? =some (.arr 47 1 (LQ Q)):=hF (p,_) (by rw[z7];simp);repeat first|(refine r_ ?_;simp[gs,ze])|refine q_ ?_
   have xb:=zG ze;have hle:=z8.elem _ xb;have wh:Q.getD n []=Q[n]:=by simp[yR,ze]
   have xc:=Xd a cl Q n;have wi:(Q.take (n+1)).map (Is a)=(Q.take n).map (Is a)++[Is a Q[n]]:=by rw[zJ ze,yM];rfl
   rw[wh]at xc;have wj:=(z1p a cl Q (z8.lim) zd n ze).2;have zq:=z8.closed _ xb;have vr:=B5 hle.1 hle.2;have wk:=fun L=>Qd (G:=L) gc;have g0:∀L,(G++L)[0]? =some (.vars (Qp a)):=fun L=>Qd (hF (0,_) (by rw[z7];simp)) L;have wm:((Q.take n).map (Is a)).length=n:=by simp;omega
   generalize Q[n]=l at *
   have wF:=hF.app [.vars [.i n]];have wc:=Qd gc [.vars [.i n]];have wf:=Qd gf [.vars [.i n]];have wv:=Qd gv [.vars [.i n]];have w7:(G++[AObj.vars [.i n]])[G.length]? =some (.vars [.i n]):=by simp
   have w0:=g0 [.vars [.i n]];refine Q3 (sl':=[(1,.vptr 0 0),(2,.vptr 1 0),(3,.i 0),(4,.vptr b 0),(6,.vptr c 0),(7,.vptr G.length 0),(8,LI l),(30,.sl p 1 0 Q.length),(31,.i Q.length),(32,.i n)]) ?_ (by simp);generalize G.length=n7 at *;generalize G++[AObj.vars [.i n]]=W at *;clear g0 wk gs gc gf gv hF;clear G
   have yf:((Q.take (n+1)).map (Is a)).map AV.bool=((Q.take n).map (Is a)).map AV.bool++[.bool (Is a l)]:=by rw[wi];simp
   have xd:(((Q.take n).map (Is a)).map AV.bool).length=n:=by rw[zV];exact wm
   generalize ((Q.take n).map (Is a)).map AV.bool=xs at *
   have zr:c≠f:=fun e=>by rw[e,wf]at wc;simp at wc
   have yg:c≠v:=fun e=>by rw[e,wv]at wc;simp at wc
   have zt:f≠v:=fun e=>by rw[e,wv]at wf;simp at wf
   have xe:c≠n7:=fun e=>by rw[e,w7]at wc;simp at wc
   have xf:f≠n7:=fun e=>by rw[e,w7]at wf;simp at wf
   have z6:∀p∈zh,p.2≠ .vars [.i a.types,.sl f 1 0 n,.sl v 3 0 (Dr a cl Q n).length]:=by rw[z7];simp[Er]
   have zu:∀p∈zh,p.2≠ .arr 4 1 xs:=by rw[z7];simp[Er]
   have wo:=Qi wc;have wq:=Qi wf;have zv:=Qi wv;have xg:=Qi w7;have xh:=wF.set wf zu .dead;have ya:∀L,(W.set f .dead++L)[c]? =some (.vars [.i a.types,.sl f 1 0 n,.sl v 3 0 (Dr a cl Q n).length]):=fun L=>Qd (Qg (Ne.symm zr) wc _) L;refine f0p (P:=Tryz.prog) tOk mixed [4,6,8] (.val 0 (.val 2 (.val 3 (.two 1 (.one 4 (.one 5 (.one 6 (.val 7 (.one 8 (.done)))))) 4 (.val 1 (.one 5 (.one 6 (.val 7 (.one 8 (.done)))))))))) (fun S'=>∃f',Fx zh S'.hp∧S'.hp[n7]? =some (.vars [.i n])∧S'.hp[c]? =some (.vars [.i a.types,.sl f' 1 0 (n+1),.sl v 3 0 (Dr a cl Q n).length])∧S'.hp[f']? =some (.arr 4 1 (xs++[.bool (Is a l)]))∧S'.hp[v]? =some (.arr 73 3 ((Dr a cl Q n).map encMv))∧look S'.sl 1=some (.vptr 0 0)∧look S'.sl 2=some (.vptr 1 0)∧look S'.sl 3=some (.i 0)∧look S'.sl 4=some (.vptr b 0)∧look S'.sl 6=some (.vptr c 0)∧look S'.sl 7=some (.vptr n7 0)∧look S'.sl 8=some (LI l)∧look S'.sl 30=some (.sl p 1 0 Q.length)∧look S'.sl 31=some (.i Q.length)∧look S'.sl 32=some (.i n)) rfl (by kernel_rfl) ?_ ?_
   ·simp[wc];refine⟨?_,?_⟩;all_goals
     refine We rfl rfl (Xi W l 48 (.vptr 0 0) (fun s=>a.fin.getD s.toNat false) (by omega) (fun z hz=>x14 W 0 a w0 z (hle.2 z hz).1 (hle.2 z hz).2)) rfl ?_;rintro _ H2 ⟨rfl,wu⟩;rw[wu];have wx:l.any (fun s=>a.fin.getD s.toNat false)=Is a l:=by unfold Is;rfl
     rw[wx];simp[wc];refine Qf tOk rfl rfl T22 rfl T4 rfl (by decide) (by decide) rfl rfl rfl ?_;simp[Qd wf,Qk wf,xd,ya,Qd wc];refine⟨by simp[Wu,Qd wf,Qk wf,xd,ya,Qd wc]<;>omega,?_⟩;refine⟨?_,?_,W.length+1,?_,?_,?_⟩
     ·exact(xh.app _).set (ya _) z6 _
     ·rw[zB xe,zE (by simpa using xg),zB xf];exact w7
     ·rw[zH (by simp;omega)]
     ·rw[zB (by omega),zC (by simp)];simp
     ·rw[zB yg,zE (by simpa using zv),zB zt];exact wv
   ·rintro⟨sl,E⟩ ⟨f',eF,e7,ec,ef,ev,s1,s2,s3,s4,s6,s7,s8,s30,s31,s32⟩;simp only at eF e7 ec ef ev s1 s2 s3 s4 s6 s7 s8 s30 s31 s32;refine Q3 (sl':=[(1,.vptr 0 0),(2,.vptr 1 0),(3,.i 0),(4,.vptr b 0),(6,.vptr c 0),(7,.vptr n7 0),(8,LI l),(30,.sl p 1 0 Q.length),(31,.i Q.length),(32,.i n)]) ?_ (by simp[s1,s2,s3,s4,s6,s7,s8,s30,s31,s32]);clear s1 s2 s3 s4 s6 s7 s8 s30 s31 s32 xh ya z6 zu wo wq zv xg zr yg zt xe xf w0 w7 wv wf wc wF;have eb:E[b]? =some (.vars [.vptr r 0]):=eF (b,_) (by rw[z7];simp);repeat first|(refine r_ ?_;simp[ec,Qd eb])|refine q_ ?_
    have yh:∀g c,Q0 a l (Qn c)=[]→stepG a Q n l g c=g:=fun g c hx=>q1s z8.ne hx;have yi:∀g c t,Q[t]? =some (Q0 a l (Qn c))→stepG a Q n l g c=Ux n g t c:=fun g c t hx=>f0b z8.nd hx;have xi:=fun k c hc=>V5 a cl Q n l (k:=k) (c:=c) hc;have wy:=fun k=>Hb a cl Q n l zd k;have xj:Ev a cl Q n l 0=[]:=y0y a cl Q n l;have wz:=Gw a cl Q n l;have v7:∀k,∀m∈Ev a cl Q n l k,PWf a.types.toNat m.on:=z1w (fun c hc=>(zo c hc).2.2.2.1);have v8:∀k,∀m∈Ev a cl Q n l k,∀s∈m.on,s.length≤65536:=z11 (fun c hc=>(zo c hc).2.2.2.2) zd;have xk:=fun f v G=>ih (n+1,f,v,G);simp only[xc,←wz,yf]at xk;clear ih;generalize Dr a cl Q n=pre at *;refine We rfl rfl (Pg _ r l) rfl ?_
    rintro _ _ ⟨rfl,rfl⟩;simp;repeat first|(refine r_ ?_;simp)|refine q_ ?_
    obtain⟨zg,z6⟩:∃zg:List (Nat×AObj),zg=zh++[(n7,.vars [.i n]),(E.length,.vars [.i pre.length]),(E.length+1,.vars [.vptr r 0]),(E.length+2,.vars [LI l]),(f',.arr 4 1 (xs++[.bool (Is a l)]))]:=⟨_,rfl⟩
    refine Ey rfl (Rf:=fun _ H'=>∃v,Fx zg H'∧H'[c]? =some (.vars [.i a.types,.sl f' 1 0 (n+1),.sl v 3 0 (pre++Ev a cl Q n l cl.length).length])∧H'[v]? =some (.arr 73 3 ((pre++Ev a cl Q n l cl.length).map encMv))∧∃sl' ps' a' b',H'[E.length+3]? =some (.lp true none 100 sl' ps' a' b')) ?_ ?_
    ·simp;refine Ke fun H1 zw=> ?_;have vb:Fx zg H1:=by
      rw[z6,zw];intro x hx;rcases zO.1 hx with hx|hx
      ·exact(eF.app _) x hx
      ·simp only[zU,vL,or_false]at hx;rcases hx with rfl|rfl|rfl|rfl|rfl
       ·exact Qd e7 _
       ·rw[zC (by simp)];simp
       ·rw[zC (by simp)];simp
       ·rw[zC (by simp)];simp
       ·exact Qd ef _
     have fc:H1[c]? =some (.vars [.i a.types,.sl f' 1 0 (n+1),.sl v 3 0 pre.length]):=by rw[zw];exact Qd ec _
     have fv:H1[v]? =some (.arr 73 3 (pre.map encMv)):=by rw[zw];exact Qd ev _
     have fq:=congrArg (fun h:List AObj=>h[E.length+3]?) zw;simp at fq;clear zw;refine FC.mono (q0j a zn cl l (fun c hc=>⟨(zo c hc).1,(zo c hc).2.1,(zo c hc).2.2.1⟩) zd (E.length+3) (E.length+1) (E.length+2) r (by rfl) (by rfl)
      (fun k H'=>∃v,Fx zg H'∧H'[c]? =some (.vars [.i a.types,.sl f' 1 0 (n+1),.sl v 3 0 (pre++Ev a cl Q n l k).length])∧H'[v]? =some (.arr 73 3 ((pre++Ev a cl Q n l k).map encMv))∧H'[E.length+3]? =H1[E.length+3]?)
      (fun k H' ⟨v',h1,h2,h3,h4⟩=>⟨h4.trans fq,h1 (E.length+1,_) (by rw[z6];simp),h1 (E.length+2,_) (by rw[z6];simp),[.sl p 1 0 Q.length,.mref m],h1 (r,_) (by rw[z6,z7];simp)⟩) ?_ ?_ ?_ H1 ⟨v,vb,by rw[xj,xQ];exact fc,by rw[xj,xQ];exact fv,rfl⟩) ?_
     ·rintro k H' L ⟨v',h1,h2,h3,h4⟩;exact⟨v',h1.app L,Qd h2 L,Qd h3 L,by rw[←h4,zE (by rw[fq]at h4;exact Qi h4)]⟩
     ·rintro k cc H' hc yj ⟨v',h1,h2,h3,h4⟩;have:=yh (Ev a cl Q n l k) cc yj;rw[←xi k cc hc]at this;exact⟨v',h1,by rw[this];exact h2,by rw[this];exact h3,h4⟩
     ·rintro k cc H' hc yj ⟨v',h1,h2,h3,h4⟩;rw[xi k cc hc];have zx:=zD hc;have yk:Q0 a l (Qn cc)∈Q:=(zq cc zx).resolve_left yj;have yl:=yi (Ev a cl Q n l k) cc;have vc:=wy k;have zj:=v7 k;have ym:=v8 k;have zi:=zo cc zx;generalize Q0 a l (Qn cc)=nx at *;generalize stepG a Q n l (Ev a cl Q n l k) cc=g2 at *;generalize Ev a cl Q n l k=g at *
      simp[Th];have h8:=h4.trans fq;obtain⟨LP0,zk⟩:∃LP0,H1[E.length+3]? =some LP0:=⟨_,fq⟩
      have za:LP0.isLp=true:=by rw[fq]at zk;injection zk with e;rw[←e];rfl
      have zb:H'[E.length+3]? =some LP0:=h4.trans zk;have yn:∀p∈zg,p.2≠LP0:=fun p hp e=>by rw[←e]at za;rw[z6,z7]at hp;simp only[zO,zU,vL,or_false]at hp;rcases hp with(rfl|rfl|rfl|rfl|rfl|rfl)|(rfl|rfl|rfl|rfl|rfl)<;>simp[AObj.isLp,Er]at za
      have y1:=h1.set zb yn .dead;have yo:E.length+3≠c:=fun e=>by rw[e,h2]at zb;injection zb with e2;rw[←e2]at za;simp[AObj.isLp]at za
      have yp:E.length+3≠v':=fun e=>by rw[e,h3]at zb;injection zb with e2;rw[←e2]at za;simp[AObj.isLp]at za
      have y2:=Qg yo h2 .dead;have y3:=Qg yp h3 .dead;have y4:=Qq zb .dead;generalize H'.set (E.length+3) .dead=Y at *
      have yb:Y[b]? =some (.vars [.vptr r 0]):=y1 (b,_) (by rw[z6,z7];simp);have y0:Y[0]? =some (.vars (Qp a)):=y1 (0,_) (by rw[z6,z7];simp);have y7:Y[n7]? =some (.vars [.i n]):=y1 (n7,_) (by rw[z6];simp);have y9:Y[E.length]? =some (.vars [.i pre.length]):=y1 (E.length,_) (by rw[z6];simp);have yt:TB r p m a cl Q Y:=⟨y1 (r,_) (by rw[z6,z7];simp),y1 (p,_) (by rw[z6,z7];simp),y1 (m,_) (by rw[z6,z7];simp)⟩
      repeat first|(refine r_ ?_;simp[Qd yb])|refine q_ ?_
      refine We rfl rfl (Nv _ r p m a cl Q nx (yt.keep fun j hj=> ?_) (xa nx yk) xa (by omega)) rfl ?_
      ·have:j<Y.length:=by
        rcases hj with rfl|rfl|rfl
        ·exact Qi yt.t
        ·exact Qi yt.s
        ·exact Qi yt.n
       exact zE this
      rintro res Z ⟨t,p2,rfl,xl,-,-,-,hZ,-⟩;rw[hZ yk];have yq:x0j Q nx=Q:=by rw[x0j,if_pos yk]
      rw[yq]at xl;rw[yl t xl];clear hZ;simp;repeat first|(refine r_ ?_;simp[Qd y2,Qd y9])|refine q_ ?_
      have xm:∀M,(Y++M)[v']? =some (.arr 73 3 ((pre++g).map encMv)):=fun M=>Qd y3 M;refine We rfl rfl (v0b (Y++[AObj.vars [.list (cc.map encL)],.vars [.i t]]) v' pre.length t (Y.length+1) pre g (by rw[zC (by omega)];simp) (xm _) (by omega) rfl) rfl ?_;rintro _ _ ⟨rfl,L,rfl⟩;simp;repeat first|(refine r_ ?_;simp)|refine q_ ?_
      have w1:=y1.app ([AObj.vars [.list (cc.map encL)],.vars [.i t]]++L);have w2:=Qd y2 ([AObj.vars [.list (cc.map encL)],.vars [.i t]]++L);have w3:=xm ([AObj.vars [.list (cc.map encL)],.vars [.i t]]++L);have w4:=Qd y4 ([AObj.vars [.list (cc.map encL)],.vars [.i t]]++L);have w5:(Y++([AObj.vars [.list (cc.map encL)],.vars [.i t]]++L))[Y.length]? =some (.vars [.list (cc.map encL)]):=by rw[zC (by omega)];simp
      have w6:(Y++([AObj.vars [.list (cc.map encL)],.vars [.i t]]++L))[Y.length+1]? =some (.vars [.i t]):=by rw[zC (by omega)];simp
      have w7:=Qd y7 ([AObj.vars [.list (cc.map encL)],.vars [.i t]]++L);have w0:=Qd y0 ([AObj.vars [.list (cc.map encL)],.vars [.i t]]++L);have w9:=Qd y9 ([AObj.vars [.list (cc.map encL)],.vars [.i t]]++L);have xn:((a.types.toNat:Nat):Int)=a.types:=by have:=zn.types;omega
      simp only[List.cons_append,List.nil_append]at w0 w1 w2 w3 w4 w5 w6 w7 w9;generalize Y++AObj.vars [.list (cc.map encL)]::AObj.vars [.i t]::L=W at *;generalize Y.length+1=i12 at *;generalize Y.length=i10 at *
      have xo:∀p∈zg,p.2≠ .dead:=by rw[z6,z7];simp[Er]
      have yr:∀p∈zg,p.2≠ .vars [.i a.types,.sl f' 1 0 (n+1),.sl v' 3 0 (pre.length+g.length)]:=by rw[z6,z7];simp[Er]
      have zy:∀p∈zg,p.2≠ .arr 73 3 ((pre++g).map encMv):=by rw[z6,z7];simp[Er]
      rw[zW]at w2;have xp:v'≠c:=fun e=>by rw[e,w2]at w3;simp at w3
      have yu:v'≠E.length+3:=fun e=>by rw[e,w4]at w3;simp at w3
      have yv:c≠E.length+3:=fun e=>by rw[e,w4]at w2;simp at w2
      have lc:=Qi w2;have lv:=Qi w3;have lq:=Qi w4;refine Q3 (sl':=[(1,.vptr 0 0),(6,.vptr c 0),(7,.vptr n7 0),(9,.vptr E.length 0),(10,.vptr i10 0),(12,.vptr i12 0),(13,.i (g05 g t)),(63,.bool (decide (g05 g t<0)))]) ?_ (by simp);cases hfi:g.findIdx? fun m:Mv=>decide (m.dst=(t:Int))with
      |none=>
       have yw:g05 g t= -1:=by rw[g05,hfi]
       have zl:Ux n g t cc=g++[⟨n,t,cc⟩]:=by rw[Ux,hfi]
       rw[yw,zl];refine Qs rfl ?_;simp;repeat first|(refine r_ ?_;simp)|refine q_ ?_
       refine Qj tOk mixed [11,13] (.val 0 (.val 1 (.val 2 (.val 3 (.val 4 (.val 5 (.val 6 (.one 7 (.one 8 (.val 9 (.one 10 (.one 11 (.val 12 (.one 13 (.done))))))))))))))) rfl (by kernel_rfl) ?_;simp[w0,w2,w5,w6,w7];refine Wc W.length (e:=70) (c:=1) (xs:=[encP cc]) (by simp) ?_;simp;have xq:=q04 a.types.toNat [cc] (by have:=zn.types;omega) (fun p hp=>by rw[zK.1 hp];exact zi.2.2.2.1) (fun j hj=>x16 zi.2.2.2.1 zi.2.2.2.2 hj) (by simp);rw[xn,v1r zi.2.2.2.1]at xq;refine Qc rfl rfl (by simp) (xq) rfl ?_;rintro _ rfl;simp;have w2b:∀M,(W++M)[c]? =some (.vars [.i a.types,.sl f' 1 0 (n+1),.sl v' 3 0 (pre.length+g.length)]):=fun M=>Qd w2 M;have w2c:∀M,(W.set v' .dead++M)[c]? =some (.vars [.i a.types,.sl f' 1 0 (n+1),.sl v' 3 0 (pre.length+g.length)]):=fun M=>Qd (Qg xp w2 _) M;have zv:((pre++g).map encMv).length=pre.length+g.length:=by simp
       have vd:=(w1.set w3 zy .dead)
       generalize yx:(pre++g).map encMv=mm at *;refine Qf tOk rfl rfl T23 rfl T73 rfl (by decide) (by decide) rfl rfl rfl ?_
       simp[Qd w3,Qk w3,w2b,w2c,zv];refine⟨by simp[Wu,Qd w3,Qk w3,w2b,w2c,zv]<;>omega,?_⟩;repeat first|(refine r_ ?_;simp)|refine q_ ?_
       have zm:((W.set v' AObj.dead++[AObj.dead,AObj.arr 73 3 [.agg [.i n,.i t,.list (cc.map encL)]],AObj.arr 73 3 (mm++[.agg [.i n,.i t,.list (cc.map encL)]])]).set c (AObj.vars [.i a.types,.sl f' 1 0 (n+1),.sl (W.length+2) 3 0 (pre.length+g.length+1)]))[E.length+3]? =some .dead:=by rw[zB yv,zE (by simpa using lq),zB yu];exact w4
       refine⟨zm,rfl,((vd.app _).set (w2c _) yr _).set zm xo _,W.length+2,?_,?_,?_⟩
       ·rw[zB (Ne.symm yv),zH (by simp;omega)];simp[Nat.add_assoc]
       ·rw[zB (by omega),zB (by omega),zC (by simp)];rw[←yx];simp
       ·rw[fq,zH (Qi zm)]
      |some i=>
       have yw:g05 g t=i:=by rw[g05,hfi]
       obtain⟨xr,hid,-⟩:=List.findIdx?_eq_some_iff_getElem.1 hfi;have xt:g[i]? =some g[i]:=zF xr;have zl:Ux n g t cc=g.set i { g[i]with on:=Ri g[i].on cc }:=by rw[Ux,hfi];simp[xt]
       rw[yw,zl];refine Qa rfl (fun h=>by simp at h;omega) (fun _=> ?_);have ve:IntKind.i64.wrap ((pre.length:Int)+i)=pre.length+i:=wrap_i64 _ (by omega) (by omega);have yy:(pre.length:Int)+i<pre.length+g.length:=by omega
       have vf:(0:Int)≤(pre.length:Int)+i:=by omega
       have vg:((pre.length:Int)+i).toNat=pre.length+i:=by omega
       repeat first|(refine r_ ?_;simp[w2,w9,ve,yy,vf,vg])|refine q_ ?_
       have y8:((pre++g).map encMv)[pre.length+i]? =some (.agg [.i g[i].src,.i g[i].dst,.list (g[i].on.map encL)]):=by rw[yM,zC (by simp)];simp[xt]
       have yz:((pre++g).map encMv).length=pre.length+g.length:=by simp
       generalize yx:(pre++g).map encMv=mm at *
       have x0:yD 2=[0,1]:=rfl;refine Qj tOk mixed [12] (.val 0 (.val 1 (.val 2 (.val 3 (.val 4 (.val 5 (.val 6 (.val 7 (.one 8 (.one 9 (.val 10 (.val 11 (.one 12 (.done)))))))))))))) rfl (by kernel_rfl) ?_;simp[w0,w3,w5,y8,yz,x0];refine Wc W.length (e:=70) (c:=1) (xs:=[encP g[i].on,encP cc]) (by simp) ?_;simp;have yc:=zG xr;have xu:=q04 a.types.toNat [g[i].on,cc] (by have:=zn.types;omega) (fun p hp=>by
        simp only[zU,vL,or_false]at hp;rcases hp with rfl|rfl
        ·exact zj _ yc
        ·exact zi.2.2.2.1) (fun j hj=>u1z (zj _ yc) zi.2.2.2.1 (ym _ yc) zi.2.2.2.2 hj) (by simp)
       rw[xn,x1r (zj _ yc) zi.2.2.2.1]at xu;have w3b:∀M,(W++M)[v']? =some (.arr 73 3 mm):=fun M=>Qd w3 M;refine Qc rfl rfl (by simp) (xu) rfl ?_;rintro _ rfl;simp[w3b,y8,Qk w3];repeat first|(refine r_ ?_;simp)|refine q_ ?_
       have zm:(W.set v' (AObj.arr 73 3 (mm.set (pre.length+i) (.agg [.i g[i].src,.i g[i].dst,.list ((Ri g[i].on cc).map encL)])))++[AObj.dead])[E.length+3]? =some .dead:=by rw[zE (by simpa using lq),zB yu];exact w4
       refine⟨zm,rfl,(((w1.set w3 zy _).app _).set zm xo _),v',?_,?_,?_⟩
       ·rw[zB (Ne.symm yv),zE (by simpa using lc),zB xp];rw[w2]
       ·rw[zB (Ne.symm yu),zE (by simpa using lv),zH lv];rw[←yx,yM,List.set_append_right _ _ (by simp)];simp[List.map_set]
       ·rw[fq,zH (Qi zm)]
     ·rintro _ H' ⟨v',h1,h2,h3,h4⟩;exact⟨h1,v',by simpa using h2,by simpa using h3,_,_,_,_,h4.trans fq⟩
    ·rintro res H' ⟨v',h1,h2,h3,⟨sl',ps',a',b',h6⟩⟩;refine⟨true,none,100,sl',ps',a',b',by simpa using h6,?_⟩;simp;have yo:E.length+3≠c:=fun e=>by rw[e,h2]at h6;simp at h6
     have yp:E.length+3≠v':=fun e=>by rw[e,h3]at h6;simp at h6
     have y1:=h1.set h6 (by rw[z6,z7];simp[Er]) .dead;have y2:=Qg yo h2 .dead;have y3:=Qg yp h3 .dead;generalize H'.set (E.length+3) .dead=Y at *
     repeat first|(refine r_ ?_;simp[hw])|refine q_ ?_
     refine Qb (sl':=[(1,.vptr 0 0),(2,.vptr 1 0),(3,.i 0),(4,.vptr b 0),(6,.vptr c 0),(30,.sl p 1 0 Q.length),(31,.i Q.length),(32,.i (n+1:Nat))]) ?_ (by simp);refine xk f' v' Y ⟨by omega,fun x hx=>y1 x (by rw[z6];exact y_ _ hx),y2,y1 (f',_) (by rw[z6];simp),y3⟩ (by omega)
  ·have x2:n=Q.length:=by simp at y8;omega
   subst x2;have zz:Dr a cl Q Q.length=(Uc a cl Q).mv:=c0s a cl Q;have x3:(Q.take Q.length).map (Is a)=(Uc a cl Q).fin:=by rw[zX];exact(Mw a cl Q).symm
   have vh:(Uc a cl Q).fin.length=Q.length:=by rw[Mw];simp
   have vi:(Uc a cl Q).mv.length≤65536:=by rw[←zz];exact u0r a cl Q wb zd
   rw[zz]at gc gv;rw[x3]at gf;rw[←vh]at gc;have vj:(Uc a cl Q).types=a.types:=w0l a cl Q;have yy:f07 (Uc a cl Q)=if Xp (Uc a cl Q)then(5,O1)else(0,Uc a cl Q):=Mu _
   rw[yy];generalize Uc a cl Q=d at *
   have g1:G[1]? =some (.vars [.i 0,.nils,.nils]):=hF (1,_) (by rw[z7];simp);have yg:v≠c:=fun e=>by rw[e,gc]at gv;simp at gv
   have zt:f≠v:=fun e=>by rw[e,gv]at gf;simp at gf
   have yd:f≠c:=fun e=>by rw[e,gc]at gf;simp at gf
   have vk:f≠1:=fun e=>by rw[e,g1]at gf;simp at gf
   have vl:v≠1:=fun e=>by rw[e,g1]at gv;simp at gv
   have vm:c≠1:=fun e=>by rw[e,g1]at gc;simp at gc
   refine Q3 (sl':=[(2,.vptr 1 0),(3,.i 0),(6,.vptr c 0)]) ?_ (by simp);refine Ws v gv c gc ?_;simp[zt];rw[zM (by simp)];have x4:=Qi gc;have vn:=Qi gf;refine R7 fun Z hZ=> ?_;have zc:Z[c]? =some (.vars [.i d.types,.sl f 1 0 d.fin.length,.list (d.mv.map encMv)]):=by rw[hZ,vj];exact zH (by simpa using x4)
   have zf:Z[f]? =some (.arr 4 1 (d.fin.map .bool)):=by rw[hZ,zB (Ne.symm yd),zB (Ne.symm zt)];exact gf
   have z1:Z[1]? =some (.vars [.i 0,.nils,.nils]):=by rw[hZ,zB vm,zB vl];exact g1
   clear hZ;repeat first|(refine r_ ?_;simp[zc])|refine q_ ?_
   refine We rfl rfl (Bt Z f d zf (by omega) (by omega)) rfl ?_;rintro res Y ⟨hr,xv⟩;have y5:=(xv 1 (Qi z1)).trans z1;have vo:=(xv f (Qi zf)).trans zf;have x0:∀X,(Y.set 1 X)[1]? =some X:=fun X=>Qq y5 X;rcases hr with⟨hb,rfl⟩|⟨hb,rfl⟩
   ·rw[hb];simp[y5];repeat first|(refine r_ ?_;simp[x0])|refine q_ ?_
    exact⟨rfl,rfl,rfl⟩
   ·rw[hb];simp[y5];refine Q3 (sl':=[(2,.vptr 1 0),(3,.i 0)]) ?_ (by simp);refine Ws f (Qg (Ne.symm vk) vo _) 1 (Qq y5 _) ?_;simp;rw[zM (by simp)];refine R7 fun X hX=> ?_;have x1:X[1]? =some (.vars [.i d.types,.list (d.fin.map .bool),.list (d.mv.map encMv)]):=by rw[hX];exact zH (by have:=Qi y5;simpa using this)
    repeat first|(refine r_ ?_;simp[x1])|refine q_ ?_
end Go.Abs
namespace Go.Abs
open Go Go.Proofs Go.Maps Go.RowKit
def w2t(l:List Bool)(i:Nat):List Bool:=l.mapIdx fun k b=>if k<i then !b else b
attribute [local irreducible] Ro x0e w2t
end Go.Abs
namespace Go.Abs
open Go Go.Proofs Go.Maps Go.RowKit
attribute [local irreducible] Wj
attribute [local irreducible] x0e P9 Al Ds z2n w2i Wg
end Go.Abs
namespace Go.Abs
open Go Go.Proofs Go.Maps Go.RowKit
section
variable {P:Program} [Env P] {T:TT} {nt k:Nat} {S:AS}
theorem Gh (hT:TOk P T) (hm:P.follows .mixedOrders=true) {Q:Exit→AS→Prop} {id:Nat} {l:List Oper} (Wr:List Nat) (p:PlanM) (Ph:AS→Prop) (hd:Y1 nt l=true)
  (hp:(Region.noSelect l.toArray && p.size==l.length && Ym l.toArray (Ul l []) Wr p (Array.replicate l.length false))=true)
  (h:Y6 P T nt k l.toArray Wr.contains Ph p S) (hn:∀S',Ph S'→Q .normal S'):AWP P nt k (.region id l.toArray true) Q S:=
 (Gg (Q:=fun e S=>e= .normal∧Ph S) hT hm Wr p hd hp (Eb (fun _ h=>⟨rfl,h⟩) p S h)).mono fun e S ⟨he,hr⟩=>by subst he;exact hn S hr
end
attribute [local irreducible] E6 upL
end Go.Abs
namespace Go.Abs
open Go Go.Proofs Go.Maps Go.RowKit
theorem g1w(p q:Prd):Be (Qn p) (Qn q)=w0v (Qv p 0) (Qv q 0):=by
 have h1:decide (((Qv p 0).1:Int)<(Qv q 0).1)=decide ((Qv p 0).1<(Qv q 0).1):=by rw[decide_eq_decide];omega
 have h2:decide (((Qv p 0).1:Int)=(Qv q 0).1)=decide ((Qv p 0).1=(Qv q 0).1):=by rw[decide_eq_decide];omega
 unfold Be w0v Qn;simp only[h1,h2]
def Od(p:Prd)(L:List Prd)(k:Nat):List Prd:=Ej p (L.take k)
theorem Kb(p:Prd)(L:List Prd):Od p L 0=[]:=by simp[Od,Ej]
theorem f0i(p:Prd)(L:List Prd):Od p L L.length=Ej p L:=by simp[Od]
theorem z09(p:Prd)(L:List Prd)(k:Nat)(h:k<L.length):Od p L (k+1)=Od p L k++((if Wk (Wf L[k] p)then []else [Wf L[k] p])++(if Wk (Wf L[k] (W2 p))then []else [Wf L[k] (W2 p)])):=by unfold Od Ej;rw[zJ h,wZ];simp
theorem u03(p:Prd)(L:List Prd)(k:Nat):(Od p L k).length≤(Ej p L).length:=by
 have h:Ej p L=Od p L k++Ej p (L.drop k):=by unfold Od Ej;rw[←wZ,List.take_append_drop]
 rw[h,zW];omega
def Pl(T:Nat)(l:List Prd)(i:Nat):List Prd:=Eg T (l.take i)
theorem Jz(T:Nat)(l:List Prd):Pl T l 0=[Wg T]:=by simp[Pl,Eg]
theorem v0q(T:Nat)(l:List Prd):Pl T l l.length=Eg T l:=by simp[Pl]
theorem w0j(T:Nat)(l:List Prd)(i:Nat)(h:i<l.length):Pl T l (i+1)=Ej l[i] (Pl T l i):=by unfold Pl Eg;rw[zJ h,xR];rfl
theorem v0i{T:Nat}(h0:0<T)(hT:T≤16){l:List Prd}(hl:∀p∈l,PCk T p)(hn:l.length≤4096)(i:Nat):
  (Pl T l i).length≤40000000∧∀c∈Pl T l i,PWf T c∧Wk c=false∧∀s∈c,s.length≤40000000:=
 Ot h0 hT (fun p hp=>hl p (yU hp)) (by rw[yY];omega)
def Dp(L:List Prd)(i:Nat):List Prd:=(L.take i).foldl Za []
theorem Am(L:List Prd):Dp L 0=[]:=by simp[Dp]
theorem f0t(L:List Prd):Dp L L.length=Zc L:=by simp[Dp,Zc]
theorem Sm(L:List Prd)(i:Nat)(h:i<L.length):Dp L (i+1)=Za (Dp L i) L[i]:=by unfold Dp;rw[zJ h,xR];rfl
theorem Vu(L:List Prd):∀i,i≤L.length→(Dp L i).length=i
 |0,_=>by rw[Am];rfl
 |i+1,h=>by rw[Sm L i (by omega),(O9 _ _).length_eq,yB,Vu L i (by omega)]
theorem Ct(L:List Prd):∀i,i≤L.length→∀c∈Dp L i,c∈L
 |0,_,c,hc=>by rw[Am]at hc;cases hc
 |i+1,h,c,hc=>by
  rw[Sm L i (by omega)]at hc;rcases zU.1 ((O9 _ _).mem_iff.1 hc)with rfl|hc
  ·exact zG _
  ·exact Ct L i (by omega) c hc
theorem v08{s:List Prd}{x:Prd}{j:Nat}(h:j<s.length):Z5 s x (j+1)=if w0v (Qv x 0) (Qv s[j] 0)=true then Z5 s x j else j+1:=by rw[Z5,zF h]
theorem q0y{α:Type}{xs:List α}{k n:Nat}(hn:n=xs.length):(xs.drop k).take (n - k)=xs.drop k:=by rw[zM (by rw[yW];omega)]
attribute [local irreducible] Od Pl Dp Wg Wf W2 Wk Z5 Eg Ej Qv
theorem X7(T:Int)(l:List Prd)(hT:1≤T∧T≤16)(hl:∀p∈l,PCk T.toNat p)(hn:l.length≤4096):PC Tryz.prog 205 [.i T,LP l] (fun r=>r=LP (Qy T.toNat l)):=by
 refine Qh tOk Tryz.func205 rfl Tryz.results205 rfl (by simp[Tryz.ntmps205]) ?_;rw[Tryz.ntmps205];simp only[Qe];simp only[LP];repeat first|(refine r_ ?_;simp)|refine q_ ?_
 refine Qc rfl rfl (by simp) (J2 T (by omega) (by omega)) rfl ?_;rintro _ rfl;simp;repeat first|(refine r_ ?_;simp)|refine q_ ?_
 refine Ql (Qb (sl':=[(0,.i T),(1,.list (l.map encP)),(5,.sl 0 1 0 (Pl T.toNat l 0).length),(6,.i (0:Nat))]) ?_ (by simp[Jz]));have hg:=v0i (T:=T.toNat) (by omega) (by omega) hl hn;refine Qm (F:=fun(u:Nat×Nat×List AObj)=>⟨[(0,.i T),(1,.list (l.map encP)),(5,.sl u.2.1 1 0 (Pl T.toNat l u.1).length),(6,.i u.1)],u.2.2⟩)
  (fun u=>u.1≤l.length∧u.2.2[u.2.1]? =some (.arr 70 1 ((Pl T.toNat l u.1).map encP))) (fun u=>l.length - u.1) ?_ (0,0,_) ⟨xE _,by rw[Jz];rfl⟩
 rintro⟨i,q,H⟩ ⟨hi,hq⟩ ih;simp only at hi hq ih ⊢;repeat first|(refine r_ ?_;simp)|refine q_ ?_
 refine Qa rfl (fun ye=> ?_) (fun yf=> ?_)
 ·have z7:i<l.length:=by simpa using ye
  have hw:IntKind.i64.wrap ((i:Int)+1)=i+1:=wrap_i64 _ (by omega) (by omega);obtain⟨g1,g2⟩:=hg i;have zw:=w0j T.toNat l i z7;have yy:=(hg (i+1)).1;have zh:=hl _ (zG z7);have yr:=fun q' G'=>ih (i+1,q',G');simp only[zw]at yr;rw[zw]at yy;clear zw;have ze:(xH encP l)[i]? =some (encP l[i]):=by simp[z7]
  have zf:∀hh,(xH encP l)[i]'hh=encP l[i]:=fun hh=>by simp
  have zg:(xH encP l).length=l.length:=by simp
  generalize l[i]=p at *;generalize Pl T.toNat l i=L at *
  repeat first|(refine r_ ?_;simp)|refine q_ ?_
  refine Q6 7 70 1 rfl ?_;simp;repeat first|(refine r_ ?_;simp)|refine q_ ?_
  have hst:=SL.start H 70 1;refine Ql (Qb (sl':=[(0,.i T),(1,.list (l.map encP)),(5,.sl q 1 0 L.length),(6,.i i),(7,.sl H.length 1 0 (Od p L 0).length),(8,.i (0:Nat))]) ?_ (by simp[Kb]));refine Qm (F:=fun(u:Nat×Nat×List AObj)=>⟨[(0,.i T),(1,.list (l.map encP)),(5,.sl q 1 0 L.length),(6,.i i),(7,.sl u.2.1 1 0 (Od p L u.1).length),(8,.i u.1)],u.2.2⟩)
   (fun u=>u.1≤L.length∧SL H u.2.2 u.2.1 70 1 ((Od p L u.1).map encP)) (fun u=>L.length - u.1) ?_ (0,H.length,_) ⟨xE _,by rw[Kb];simpa using hst⟩
  rintro⟨k,q',G⟩ ⟨hk,hs⟩ ih2;simp only at hk hs ih2 ⊢;repeat first|(refine r_ ?_;simp)|refine q_ ?_
  refine Qa rfl (fun yg=> ?_) (fun yh=> ?_)
  ·have z8:k<L.length:=by simpa using yg
   have y8:IntKind.i64.wrap ((k:Int)+1)=k+1:=wrap_i64 _ (by omega) (by omega);have zy:=z09 p L k z8;have x9:=u03 p L k;have za:=fun q' G'=>ih2 (k+1,q',G');simp only[zy]at za;clear zy;obtain⟨w1,w2,w3⟩:=g2 _ (zG z8);have zz:(xH encP L)[k]? =some (encP L[k]):=by simp[z8]
   have y9:(xH encP L).length=L.length:=by simp
   have y0:∀hh,(xH encP L)[k]'hh=encP L[k]:=fun hh=>by simp
   generalize L[k]=c at *;generalize Od p L k=S at *
   have cB:=P2 T.toNat c p w1 zh.wf (fun s hs t ht=>by have:=w3 s hs;have:=(zh.2 t ht).1;omega) (by omega);have cR:=C7 T.toNat p zh.wf (fun s hs=>by have:=(zh.2 s hs).1;omega) (by omega);have cB2:=P2 T.toNat c (W2 p) w1 (U4 zh.wf) (fun s hs t ht=>by have:=w3 s hs;have:=Ls zh.wf (fun s hs=>(zh.2 s hs).1) t ht;omega) (by omega);have y4:=hs.kp hq;have ya:∀M:List AObj,(G++M)[q]? =some (.arr 70 1 (L.map encP)):=fun M=>Qd y4 M;simp only[encP]at zz y0 ze zf;simp only[encP]at cB cR cB2;repeat first|(refine r_ ?_;simp)|refine q_ ?_
   refine Gh (P:=Tryz.prog) tOk mixed [21,22] (.val 0 (.val 1 (.val 2 (.val 3 (.val 4 (.val 5 (.val 6 (.val 7 (.val 9 (.val 10 (.val 11 (.val 12 (.val 13 (.val 14 (.val 15 (.val 16 (.three 8 (.three 17 (.three 18 (.two 19 (.one 20 (.one 21 (.one 22 (.done)))) 20 (.one 19 (.one 21 (.one 22 (.done))))) 19 (.two 18 (.one 20 (.one 21 (.one 22 (.done)))) 20 (.one 18 (.one 21 (.one 22 (.done))))) 20 (.two 18 (.one 19 (.one 21 (.one 22 (.done)))) 19 (.one 18 (.one 21 (.one 22 (.done)))))) 19 (.two 17 (.two 18 (.one 20 (.one 21 (.one 22 (.done)))) 20 (.one 18 (.one 21 (.one 22 (.done))))) 20 (.one 17 (.one 18 (.one 21 (.one 22 (.done)))))) 20 (.two 17 (.two 18 (.one 19 (.one 21 (.one 22 (.done)))) 19 (.one 18 (.one 21 (.one 22 (.done))))) 19 (.one 17 (.one 18 (.one 21 (.one 22 (.done))))))) 19 (.two 8 (.two 17 (.two 18 (.one 20 (.one 21 (.one 22 (.done)))) 20 (.one 18 (.one 21 (.one 22 (.done))))) 20 (.one 17 (.one 18 (.one 21 (.one 22 (.done)))))) 20 (.one 8 (.one 17 (.one 18 (.one 21 (.one 22 (.done))))))) 20 (.two 8 (.two 17 (.two 18 (.one 19 (.one 21 (.one 22 (.done)))) 19 (.one 18 (.one 21 (.one 22 (.done))))) 19 (.one 17 (.one 18 (.one 21 (.one 22 (.done)))))) 19 (.one 8 (.one 17 (.one 18 (.one 21 (.one 22 (.done)))))))))))))))))))))))) (fun S'=>∃(u v:Nat) (E:List AObj),S'.hp=G++E∧look S'.sl 9=some (.vptr u 0)∧look S'.sl 10=some (.vptr v 0)∧(G++E)[u]? =some (.vars [.list ((Wf c p).map encL)])∧(G++E)[v]? =some (.vars [.list ((Wf c (W2 p)).map encL)])∧look S'.sl 0=some (.i T)∧look S'.sl 1=some (.list (l.map encP))∧look S'.sl 5=some (.sl q 1 0 L.length)∧look S'.sl 6=some (.i i)∧look S'.sl 7=some (.sl q' 1 0 S.length)∧look S'.sl 8=some (.i k)) rfl (by kernel_rfl) ?_ ?_
   ·simp[y4,ya,zz,y0,y9,z8,z7,ze,zf,zg]
    repeat' (first
     |refine And.intro ?_ ?_
     |(refine Qc rfl rfl (by simp) cB rfl ?_;rintro _ rfl;simp[y4,ya,zz,y0,y9,z8,z7,ze,zf,zg])
     |(refine Qc rfl rfl (by simp) cR rfl ?_;rintro _ rfl;simp[y4,ya,zz,y0,y9,z8,z7,ze,zf,zg])
     |(refine Qc rfl rfl (by simp) cB2 rfl ?_;rintro _ rfl;simp[y4,ya,zz,y0,y9,z8,z7,ze,zf,zg]))
   ·rintro⟨sl,E0⟩ ⟨u,v,E,rfl,s9,s10,hu,hv,s0,s1,s5,s6,s7,s8⟩;simp only at s9 s10 s0 s1 s5 s6 s7 s8;simp;refine Q3 (sl':=[(0,.i T),(1,.list (l.map encP)),(5,.sl q 1 0 L.length),(6,.i i),(7,.sl q' 1 0 S.length),(8,.i k),(9,.vptr u 0),(10,.vptr v 0)]) ?_ (by simp[s9,s10,s0,s1,s5,s6,s7,s8]);have zd:=hs.add E;have xa:=zd.kp hq;generalize G++E=G2 at *
    have yz:q'≠v:=fun e=>by have:=zd.arr;rw[e,hv]at this;simp at this
    have yt:∀M,(G2.set q' .dead++M)[v]? =some (.vars [.list ((Wf c (W2 p)).map encL)]):=fun M=>Qd (Qg yz hv _) M;repeat first|(refine r_ ?_;simp[hu])|refine q_ ?_
    refine Qc rfl rfl (by simp) (U0 (Wf c p)) rfl ?_;rintro _ rfl;simp;have zi:(xH encP S).length=S.length:=by simp
    cases hv1:Wk (Wf c p)with
    |true=>
     rw[hv1]at za;refine Qs rfl ?_;simp;repeat first|(refine r_ ?_;simp[hv])|refine q_ ?_
     refine Qc rfl rfl (by simp) (U0 (Wf c (W2 p))) rfl ?_;rintro _ rfl;simp;cases hv2:Wk (Wf c (W2 p))with
     |true=>
      rw[hv2]at za;refine Qs rfl ?_;simp;repeat first|(refine r_ ?_;simp[y8])|refine q_ ?_
      refine Qb (sl':=[(0,.i T),(1,.list (l.map encP)),(5,.sl q 1 0 L.length),(6,.i i),(7,.sl q' 1 0 S.length),(8,.i (k+1:Nat))]) ?_ (by simp);have:=za q' G2 ⟨by omega,by simpa using zd⟩ (by omega);simpa using this
     |false=>
      rw[hv2]at za;refine Qs rfl ?_;simp;repeat first|(refine r_ ?_;simp[hv])|refine q_ ?_
      refine Qf tOk rfl rfl T87 rfl T70 rfl (by decide) (by decide) rfl rfl rfl ?_;simp[Qd zd.arr,Qk zd.arr,zi];refine⟨by simp[Wu,Qd zd.arr,Qk zd.arr,zi]<;>omega,?_⟩;repeat first|(refine r_ ?_;simp[y8])|refine q_ ?_
      refine Qb (sl':=[(0,.i T),(1,.list (l.map encP)),(5,.sl q 1 0 L.length),(6,.i i),(7,.sl (G2.length+1) 1 0 (S.length+1)),(8,.i (k+1:Nat))]) ?_ (by simp);have:=za (G2.length+1) _ ⟨by omega,by simpa using zd.put [AObj.arr 70 1 [encP (Wf c (W2 p))]] ((S++[Wf c (W2 p)]).map encP) rfl⟩ (by omega);simpa using this
    |false=>
     rw[hv1]at za;refine Qs rfl ?_;simp;repeat first|(refine r_ ?_;simp[hu])|refine q_ ?_
     refine Qf tOk rfl rfl T87 rfl T70 rfl (by decide) (by decide) rfl rfl rfl ?_;simp[Qd zd.arr,Qk zd.arr,zi];refine⟨by simp[Wu,Qd zd.arr,Qk zd.arr,zi]<;>omega,?_⟩;repeat first|(refine r_ ?_;simp[yt])|refine q_ ?_
     have yu:=zd.put [AObj.arr 70 1 [encP (Wf c p)]] ((S++[Wf c p]).map encP) rfl;refine Ab fun Z hZ=> ?_;have zx:SL H Z (G2.length+1) 70 1 ((S++[Wf c p]).map encP):=by rw[hZ];simpa using yu
     have x0:Z[v]? =some (.vars [.list ((Wf c (W2 p)).map encL)]):=by rw[hZ];exact yt _
     clear hZ yu;have y5:((S++[Wf c p]).map encP).length=S.length+1:=by simp
     generalize G2.length+1=q3 at *;refine Qc rfl rfl (by simp) (U0 (Wf c (W2 p))) rfl ?_
     rintro _ rfl;simp;cases hv2:Wk (Wf c (W2 p))with
     |true=>
      rw[hv2]at za;refine Qs rfl ?_;simp;repeat first|(refine r_ ?_;simp[y8])|refine q_ ?_
      refine Qb (sl':=[(0,.i T),(1,.list (l.map encP)),(5,.sl q 1 0 L.length),(6,.i i),(7,.sl q3 1 0 (S.length+1)),(8,.i (k+1:Nat))]) ?_ (by simp);have:=za q3 Z ⟨by omega,by simpa using zx⟩ (by omega);simpa using this
     |false=>
      rw[hv2]at za;refine Qs rfl ?_;simp;repeat first|(refine r_ ?_;simp[x0])|refine q_ ?_
      generalize y6:(S++[Wf c p]).map encP=mm at *;refine Qf tOk rfl rfl T87 rfl T70 rfl (by decide) (by decide) rfl rfl rfl ?_
      simp[Qd zx.arr,Qk zx.arr,y5];refine⟨by simp[Wu,Qd zx.arr,Qk zx.arr,y5]<;>omega,?_⟩;repeat first|(refine r_ ?_;simp[y8])|refine q_ ?_
      refine Qb (sl':=[(0,.i T),(1,.list (l.map encP)),(5,.sl q 1 0 L.length),(6,.i i),(7,.sl (Z.length+1) 1 0 (S.length+2)),(8,.i (k+1:Nat))]) ?_ (by simp);have x1:=zx.put [AObj.arr 70 1 [encP (Wf c (W2 p))]] (mm++[encP (Wf c (W2 p))]) rfl;have:=za (Z.length+1) _ ⟨by omega,by
       have e:xH encP (S++((if false=true then []else [Wf c p])++if false=true then []else [Wf c (W2 p)]))=mm++[encP (Wf c (W2 p))]:=by rw[←y6];simp
       rw[e];simpa using x1⟩ (by omega)
      simpa using this
  ·have y7:k=L.length:=by simp at yh;omega
   have x2:Od p L k=Ej p L:=by rw[y7,f0i]
   rw[x2]at hs ⊢;repeat first|(refine r_ ?_;simp[hw])|refine q_ ?_
   refine Qb (sl':=[(0,.i T),(1,.list (l.map encP)),(5,.sl q' 1 0 (Ej p L).length),(6,.i (i+1:Nat))]) ?_ (by simp);exact yr q' G ⟨by omega,hs.arr⟩ (by omega)
 ·have zj:i=l.length:=by simp at yf;omega
  subst zj;rw[v0q]at hq ⊢;obtain⟨xb,yv⟩:=Ot (T:=T.toNat) (by omega) (by omega) hl hn;have hR:Qy T.toNat l=Zc (Eg T.toNat l):=rfl;rw[hR];generalize Eg T.toNat l=C at *
  repeat first|(refine r_ ?_;simp)|refine q_ ?_
  refine Q3 (sl':=[(5,.sl q 1 0 C.length),(11,.nils),(12,.i (0:Nat))]) ?_ (by simp);refine Et q hq ?_;simp;rw[zM (by simp)];refine Q6 11 70 1 rfl ?_;simp;clear hq;refine Ql (Qb (sl':=[(5,.list (C.map encP)),(11,.sl H.length 1 0 (0:Nat)),(12,.i (0:Nat))]) ?_ (by simp));refine Qm (F:=fun(u:Nat×Nat×List AObj)=>⟨[(5,.list (C.map encP)),(11,.sl u.2.1 1 0 u.1),(12,.i u.1)],u.2.2⟩)
   (fun u=>u.1≤C.length∧u.2.2[u.2.1]? =some (.arr 70 1 ((Dp C u.1).map encP))) (fun u=>C.length - u.1) ?_ (0,H.length,_) ⟨xE _,by rw[Am];simp⟩
  rintro⟨i,q2,G⟩ ⟨x3,zc⟩ ih3;simp only at x3 zc ih3 ⊢;repeat first|(refine r_ ?_;simp)|refine q_ ?_
  refine Qa rfl (fun ye=> ?_) (fun yf=> ?_)
  ·have z7:i<C.length:=by simpa using ye
   have hw:IntKind.i64.wrap ((i:Int)+1)=i+1:=wrap_i64 _ (by omega) (by omega);have zi:=Vu C i (by omega);have x4:=Ct C i (by omega);have zw:=Sm C i z7;have zk:=fun q' G'=>ih3 (i+1,q',G');simp only[zw]at zk;clear zw;obtain⟨w1,w2,w3⟩:=yv _ (zG z7);have zm:(xH encP C)[i]? =some (encP C[i]):=by simp[z7]
   have zn:∀hh,(xH encP C)[i]'hh=encP C[i]:=fun hh=>by simp
   generalize C[i]=x at *;generalize Dp C i=S at *
   have zb:(S.map encP).length=i:=by simpa using zi
   repeat first|(refine r_ ?_;simp)|refine q_ ?_
   refine Ql (Qb (sl':=[(5,.list (C.map encP)),(11,.sl q2 1 0 i),(12,.i i),(13,.i i)]) ?_ (by simp));refine Qm (F:=fun(j:Nat)=>⟨[(5,.list (C.map encP)),(11,.sl q2 1 0 i),(12,.i i),(13,.i j)],G⟩)
    (fun j=>j≤i∧Z5 S x j=Z5 S x S.length) (fun j=>j) ?_ i ⟨Nat.le_refl _,by rw[zi]⟩
   rintro j ⟨hj,hJ⟩ ih4;try simp only at hj hJ ih4 ⊢
   by_cases hj0:0<j
   ·obtain⟨j',rfl⟩:∃j',j=j'+1:=⟨j - 1,by omega⟩
    have yi:j'<S.length:=by omega
    have yb:IntKind.i64.wrap (j':Int)=j':=wrap_i64 _ (by omega) (by omega);obtain⟨y1,y2,y3⟩:=yv _ (x4 _ (zG yi));rw[v08 yi]at hJ;have yc:(xH encP S)[j']? =some (encP S[j']):=by simp[yi]
    have yd:∀hh,(xH encP S)[j']'hh=encP S[j']:=fun hh=>by simp
    have zo:(0:Int)<(j':Int)+1:=by omega
    have yj:j'<i:=by omega
    simp only[encP]at zm zn yc yd;repeat first|(refine r_ ?_;simp)|refine q_ ?_
    refine Qj tOk mixed [] (.val 0 (.val 1 (.val 2 (.val 3 (.val 4 (.val 5 (.val 6 (.val 8 (.val 9 (.val 10 (.val 11 (.val 12 (.one 7 (.one 13 (.one 14 (.val 15 (.done))))))))))))))))) rfl (by kernel_rfl) ?_;simp[z7,zm,zn,zc,yc,yd,yb,zb,zo,yj];refine Qc rfl rfl (by simp) (Sn x w2) rfl ?_;rintro _ rfl;simp[z7,zm,zn,zc,yc,yd,yb,zb,zo,yj];refine Qc rfl rfl (by simp) (Sn S[j'] y2) rfl ?_;rintro _ rfl;simp[z7,zm,zn,zc,yc,yd,yb,zb,zo,yj];refine Qc rfl rfl (by simp) (By (Qn x) (Qn S[j'])) rfl ?_;rintro _ rfl;simp;rw[g1w];cases hb:w0v (Qv x 0) (Qv S[j'] 0)with
    |true=>
     rw[hb,if_pos rfl]at hJ;refine Qs rfl ?_;repeat first|(refine r_ ?_;simp[yb])|refine q_ ?_
     refine Qb (sl':=[(5,.list (C.map encP)),(11,.sl q2 1 0 i),(12,.i i),(13,.i j')]) ?_ (by simp);exact ih4 j' ⟨by omega,hJ⟩ (by omega)
    |false=>
     rw[hb,if_neg (by simp)]at hJ;refine Qs rfl ?_;obtain⟨k,hk⟩:∃k,k=j'+1:=⟨_,rfl⟩
     rw[←hk]at hJ;have yk:k=Z5 S x S.length:=hJ;have zp:k≤i:=by omega
     refine Q3 (sl':=[(5,.list (C.map encP)),(11,.sl q2 1 0 i),(12,.i i),(13,.i (k:Nat))]) ?_ (by simp[hk]);have x5:(0:Int)≤(k:Int):=by omega
     have yl:(k:Int)≤(i:Int):=by omega
     have zq:Za S x=S.take k++x::S.drop k:=by rw[Za,←yk]
     repeat first|(refine r_ ?_;simp[zp])|refine q_ ?_
     refine Qf tOk rfl rfl T87 rfl T70 rfl (by decide) (by decide) rfl rfl rfl ?_;simp[Qd zc,Qk zc,zb,zp];refine⟨⟨fun y hy=> ?_,by simp;omega⟩,?_⟩
     ·obtain⟨c',_,rfl⟩:=zN.1 (wG (yU hy));exact⟨rfl,rfl⟩
     rw[q0y zb.symm];refine R7 fun Z hZ=> ?_;have zr:=Qi zc;have z1:Z[q2]? =some (.arr 70 1 (S.map encP)):=by rw[hZ];simp[zE zr,zc]
     have z2:Z[G.length+1]? =some (.arr 70 1 ((S.map encP).drop k)):=by rw[hZ];simp
     have zl:Z.length=G.length+2:=by rw[hZ];simp
     clear hZ;refine Q3 (sl':=[(5,.list (C.map encP)),(11,.sl q2 1 0 i),(12,.i i),(13,.i (k:Nat)),(14,.sl (G.length+1) 1 0 (i - k))]) ?_ (by simp);refine F0 q2 k z1 ?_;have z3:(Z.set q2 (.arr 70 1 ((S.map encP).take k)))[q2]? =some (.arr 70 1 ((S.map encP).take k)):=Qq z1 _;have z4:(Z.set q2 (.arr 70 1 ((S.map encP).take k)))[G.length+1]? =some (.arr 70 1 ((S.map encP).drop k)):=Qg (by omega) z2 _;have x6:(Z.set q2 (.arr 70 1 ((S.map encP).take k))).length=G.length+2:=by simp[zl]
     generalize Z.set q2 (.arr 70 1 ((S.map encP).take k))=Y at *;clear z1 z2 zl;clear Z
     have zt:((S.map encP).take k).length=k:=by rw[yY];omega
     have ym:((S.map encP).drop k).length=i - k:=by rw[yW];omega
     have yn:(S.map encP).take k=(S.take k).map encP:=by rw[yP]
     have yo:(S.map encP).drop k=(S.drop k).map encP:=by rw[yQ]
     have zu:(Za S x).map encP=(S.map encP).take k++(encP x::(S.map encP).drop k):=by rw[zq,yM,yK,yn,yo]
     have yp:∀y∈(S.map encP).drop k,y.cells.length=1∧y.cells.all AV.leaf=true:=fun y hy=>by obtain⟨c',_,rfl⟩:=zN.1 (wG hy);exact⟨rfl,rfl⟩
     generalize (S.map encP).take k=tk at *;generalize (S.map encP).drop k=dk at *;refine Qj tOk mixed [8,10] (.val 0 (.val 1 (.val 2 (.val 3 (.val 4 (.val 5 (.val 6 (.val 9 (.one 7 (.one 8 (.one 10 (.val 11 (.done))))))))))))) rfl (by kernel_rfl) ?_
     simp[z7,zm,zn,zp];refine Qf tOk rfl rfl T87 rfl T70 rfl (by decide) (by decide) rfl rfl rfl ?_;simp[Qd z3,Qk z3,zt];refine⟨by simp[Wu,Qd z3,Qk z3,zt]<;>omega,?_⟩;refine Ab fun Z hZ=> ?_;have z5:Z[Y.length+1]? =some (.arr 70 1 (tk++[encP x])):=by rw[hZ,zC (by simp)];simp
     have z6:Z[G.length+1]? =some (.arr 70 1 dk):=by rw[hZ];exact Qd (Qg (by omega) z4 _) _
     clear hZ;have zv:(tk++[encP x]).length=k+1:=by simp[zt]
     have x7:i - k≤dk.length:=by omega
     have yq:dk.take (i - k)=dk:=zM (by omega);generalize y6:tk++[encP x]=mm at *;refine Qf tOk rfl rfl T87 rfl T70 rfl (by decide) (by decide) rfl rfl rfl ?_
     simp[Qd z5,Qk z5,Qd z6,zv,ym,yq,z5,z6];refine⟨⟨yp,by simp;omega⟩,?_⟩;repeat first|(refine r_ ?_;simp[hw])|refine q_ ?_
     refine Qb (sl':=[(5,.list (C.map encP)),(11,.sl Z.length 1 0 (i+1)),(12,.i (i+1:Nat))]) ?_ (by simp;omega);refine zk Z.length _ ⟨by omega,?_⟩ (by omega);rw[zu,zC (by simp),←y6];simp
   ·have x8:j=0:=by omega
    subst x8;have yw:IntKind.i64.wrap (-1)= -1:=by decide
    repeat first|(refine r_ ?_;simp)|refine q_ ?_
    refine Qj tOk mixed [] (.val 0 (.val 1 (.val 2 (.val 3 (.val 4 (.val 5 (.val 6 (.val 8 (.val 9 (.val 10 (.val 11 (.val 12 (.one 7 (.one 13 (.one 14 (.val 15 (.done))))))))))))))))) rfl (by kernel_rfl) ?_;simp[z7,zm,zn,zc,zb,yw];refine Qx rfl rfl ?_;simp[zc,zb,yw];refine Qx rfl rfl ?_;simp;refine Qx rfl rfl ?_;simp;refine Qs rfl ?_;obtain⟨k,hk⟩:∃k,k=0:=⟨_,rfl⟩
    have yk:k=Z5 S x S.length:=by rw[←hJ,hk];unfold Z5;rfl
    have zp:k≤i:=by omega
    refine Q3 (sl':=[(5,.list (C.map encP)),(11,.sl q2 1 0 i),(12,.i i),(13,.i (k:Nat))]) ?_ (by simp[hk]);have x5:(0:Int)≤(k:Int):=by omega
    have yl:(k:Int)≤(i:Int):=by omega
    have zq:Za S x=S.take k++x::S.drop k:=by rw[Za,←yk]
    repeat first|(refine r_ ?_;simp[zp])|refine q_ ?_
    refine Qf tOk rfl rfl T87 rfl T70 rfl (by decide) (by decide) rfl rfl rfl ?_;simp[Qd zc,Qk zc,zb,zp];refine⟨⟨fun y hy=> ?_,by simp;omega⟩,?_⟩
    ·obtain⟨c',_,rfl⟩:=zN.1 (wG (yU hy));exact⟨rfl,rfl⟩
    rw[q0y zb.symm];refine R7 fun Z hZ=> ?_;have zr:=Qi zc;have z1:Z[q2]? =some (.arr 70 1 (S.map encP)):=by rw[hZ];simp[zE zr,zc]
    have z2:Z[G.length+1]? =some (.arr 70 1 ((S.map encP).drop k)):=by rw[hZ];simp
    have zl:Z.length=G.length+2:=by rw[hZ];simp
    clear hZ;refine Q3 (sl':=[(5,.list (C.map encP)),(11,.sl q2 1 0 i),(12,.i i),(13,.i (k:Nat)),(14,.sl (G.length+1) 1 0 (i - k))]) ?_ (by simp);refine F0 q2 k z1 ?_;have z3:(Z.set q2 (.arr 70 1 ((S.map encP).take k)))[q2]? =some (.arr 70 1 ((S.map encP).take k)):=Qq z1 _;have z4:(Z.set q2 (.arr 70 1 ((S.map encP).take k)))[G.length+1]? =some (.arr 70 1 ((S.map encP).drop k)):=Qg (by omega) z2 _;have x6:(Z.set q2 (.arr 70 1 ((S.map encP).take k))).length=G.length+2:=by simp[zl]
    generalize Z.set q2 (.arr 70 1 ((S.map encP).take k))=Y at *;clear z1 z2 zl;clear Z
    have zt:((S.map encP).take k).length=k:=by rw[yY];omega
    have ym:((S.map encP).drop k).length=i - k:=by rw[yW];omega
    have yn:(S.map encP).take k=(S.take k).map encP:=by rw[yP]
    have yo:(S.map encP).drop k=(S.drop k).map encP:=by rw[yQ]
    have zu:(Za S x).map encP=(S.map encP).take k++(encP x::(S.map encP).drop k):=by rw[zq,yM,yK,yn,yo]
    have yp:∀y∈(S.map encP).drop k,y.cells.length=1∧y.cells.all AV.leaf=true:=fun y hy=>by obtain⟨c',_,rfl⟩:=zN.1 (wG hy);exact⟨rfl,rfl⟩
    generalize (S.map encP).take k=tk at *;generalize (S.map encP).drop k=dk at *;refine Qj tOk mixed [8,10] (.val 0 (.val 1 (.val 2 (.val 3 (.val 4 (.val 5 (.val 6 (.val 9 (.one 7 (.one 8 (.one 10 (.val 11 (.done))))))))))))) rfl (by kernel_rfl) ?_
    simp[z7,zm,zn,zp];refine Qf tOk rfl rfl T87 rfl T70 rfl (by decide) (by decide) rfl rfl rfl ?_;simp[Qd z3,Qk z3,zt];refine⟨by simp[Wu,Qd z3,Qk z3,zt]<;>omega,?_⟩;refine Ab fun Z hZ=> ?_;have z5:Z[Y.length+1]? =some (.arr 70 1 (tk++[encP x])):=by rw[hZ,zC (by simp)];simp
    have z6:Z[G.length+1]? =some (.arr 70 1 dk):=by rw[hZ];exact Qd (Qg (by omega) z4 _) _
    clear hZ;have zv:(tk++[encP x]).length=k+1:=by simp[zt]
    have x7:i - k≤dk.length:=by omega
    have yq:dk.take (i - k)=dk:=zM (by omega);generalize y6:tk++[encP x]=mm at *;refine Qf tOk rfl rfl T87 rfl T70 rfl (by decide) (by decide) rfl rfl rfl ?_
    simp[Qd z5,Qk z5,Qd z6,zv,ym,yq,z5,z6];refine⟨⟨yp,by simp;omega⟩,?_⟩;repeat first|(refine r_ ?_;simp[hw])|refine q_ ?_
    refine Qb (sl':=[(5,.list (C.map encP)),(11,.sl Z.length 1 0 (i+1)),(12,.i (i+1:Nat))]) ?_ (by simp;omega);refine zk Z.length _ ⟨by omega,?_⟩ (by omega);rw[zu,zC (by simp),←y6];simp
  ·have zj:i=C.length:=by simp at yf;omega
   subst zj;rw[f0t]at zc;have yx:=Zd C;refine Et q2 zc ?_;simp[yx];rw[zM (by simp[yx])];repeat first|(refine r_ ?_;simp)|refine q_ ?_
end Go.Abs
namespace Go.Abs
open Go Go.Proofs Go.Maps Go.RowKit
def z2d(p:Prd):Bool:=p.any fun s=>decide (256<s.length)
def y2a(p:Prd):Int×Prd:=if z2d p then(5,[])else(0,p)
attribute [local irreducible] Qy E7 z2d
attribute [local irreducible] Yf y2a
end Go.Abs
namespace Go.Abs
open Go Go.Proofs Go.Maps Go.RowKit
attribute [local irreducible] Q0 Qn y0x y1p R4 Rn w1l nxB T8 j0q Wj
end Go.Abs
namespace Go.Abs
open Go Go.Proofs Go.Maps Go.RowKit
attribute [local irreducible] O5 Q0 Qn f07 Uc Dr Ev stepG Is Xp j0q w1l nxB T8 w2i Wj
end Go.Abs
namespace Go.Abs
open Go Go.Proofs Go.Maps Go.RowKit
attribute [local irreducible] Ro z2e x0e
end Go.Abs
namespace Go.Abs
open Go Go.Proofs Go.Maps Go.RowKit
attribute [local irreducible] P9 Lc Wj
theorem N4(a:Aut):PC Tryz.prog 37 [encA a] (fun r=>r= .i (Tl a)):=by
 refine Qh tOk Tryz.func37 rfl Tryz.results37 rfl (by simp[Tryz.ntmps37]) ?_;rw[Tryz.ntmps37];simp only[Qe];simp only[encA];repeat first|(refine r_ ?_;simp)|refine q_ ?_
 refine Qc rfl rfl (by simp) (Sv a) rfl ?_;rintro _ rfl;simp;repeat first|(refine r_ ?_;simp)|refine q_ ?_
 refine Qa rfl (fun h=> ?_) (fun h=> ?_)
 ·repeat first|(refine r_ ?_;simp)|refine q_ ?_
  rw[Tl,if_pos (by simpa using h)]
 have h0:Wj a=0:=by simpa using h
 have z1:=(Oc a).1 h0;rw[Tl,if_neg (fun k=>k h0)];repeat first|(refine r_ ?_;simp)|refine q_ ?_
 refine Qc rfl rfl (by simp) (y0l a z1) rfl ?_;rintro _ rfl;simp;cases hs:Lc a with
 |false=>
  repeat first|(refine r_ ?_;simp[hs])|refine q_ ?_
  refine Qx rfl rfl ?_;simp;refine Qs rfl ?_;repeat (first|(refine r_ ?_;simp)|refine q_ ?_)
 |true=>
  repeat first|(refine r_ ?_;simp[hs])|refine q_ ?_
  refine Qc rfl rfl (by simp) (d0i a z1) rfl ?_;rintro _ rfl;simp;cases hf:P9 a with
  |false=>
   repeat first|(refine r_ ?_;simp[hf])|refine q_ ?_
   refine Qs rfl ?_;repeat (first|(refine r_ ?_;simp)|refine q_ ?_)
  |true=>
   repeat first|(refine r_ ?_;simp[hf])|refine q_ ?_
   refine Qs rfl ?_;repeat first|(refine r_ ?_;simp)|refine q_ ?_
attribute [local irreducible] E5
def toD(a:Aut)(s:Int)(x:Sy)(j:Nat):Int:=match (a.mv.drop j).find? (fun m=>decide (m.src=s) && E5 m.on x)with|some m=>m.dst|none=> -1
theorem q15(a:Aut)(s:Int)(x:Sy):toD a s x 0=toL a s x:=rfl
theorem w1j(a:Aut)(s:Int)(x:Sy)(j:Nat)(h:j<a.mv.length):toD a s x j=if(decide (a.mv[j].src=s) && E5 a.mv[j].on x)=true then a.mv[j].dst else toD a s x (j+1):=by unfold toD;rw[List.drop_eq_getElem_cons h,List.find?_cons];cases hb:(decide (a.mv[j].src=s) && E5 a.mv[j].on x)<;>simp
theorem u1q(a:Aut)(s:Int)(x:Sy):toD a s x a.mv.length= -1:=by simp[toD]
attribute [local irreducible] toD toL
theorem y1w(a:Aut)(ha:OkA a)(s:Int)(x:Sy):PC Tryz.prog 147 [encA a,.i s,encSy x] (fun r=>r= .i (toL a s x)):=by
 refine Qh tOk Tryz.func147 rfl Tryz.results147 rfl (by simp[Tryz.ntmps147]) ?_;rw[Tryz.ntmps147];simp only[Qe];simp only[encA,encSy];have zc:=ha.mvs;repeat first|(refine r_ ?_;simp)|refine q_ ?_
 refine Qr a.mv.length (fun j=>toD a s x j=toL a s x) (fun j=>[(1,.i s),(3,.vptr 0 0),(5,.vptr 1 0),(7,.i j)]) (fun _=>[.vars (Qp a),.vars [.i x.ty,.i x.num]]) rfl (by simp) (by simp) (by simp) (by simp) (q15 a s x) ?_;intro j hj hI ih;repeat first|(refine r_ ?_;simp)|refine q_ ?_
 refine Qa rfl (fun za=> ?_) (fun zb=> ?_)
 ·have z1:j<a.mv.length:=by simpa using za
  have hw:IntKind.i64.wrap ((j:Int)+1)=j+1:=wrap_i64 _ (by omega) (by omega);have z6:=w1j a s x j z1;by_cases he:a.mv[j].src=s
  ·have z7:(a.mv[j].src==s)=true:=by simpa using he
   repeat first|(refine r_ ?_;simp)|refine q_ ?_
   refine Qj tOk mixed [] (.val 0 (.val 1 (.val 2 (.val 3 (.val 4 (.val 5 (.val 6 (.val 7 (.val 8 (.val 9 (.val 10 (.val 11 (.val 12 (.val 13 (.val 14 (.val 15 (.one 16 (.val 17 (.done))))))))))))))))))) rfl (by kernel_rfl) ?_;simp[z1,z7];refine Qc rfl rfl (by simp) (M4 a.mv[j].on x (fun t ht=>by have:=Py ha (zG z1) t ht;omega)) rfl ?_;rintro _ rfl;simp;rw[decide_eq_true he,Bool.true_and]at z6;cases hb:E5 a.mv[j].on x with
   |true=>
    rw[hb,if_pos rfl]at z6;repeat first|(refine r_ ?_;simp[hb])|refine q_ ?_
    refine Qs rfl ?_;repeat first|(refine r_ ?_;simp[z1])|refine q_ ?_
    rw[←hI,z6]
   |false=>
    rw[hb,if_neg (by simp)]at z6;repeat first|(refine r_ ?_;simp[hb])|refine q_ ?_
    refine Qs rfl ?_;repeat first|(refine r_ ?_;simp[hw])|refine q_ ?_
    refine Qo _ (ih z1 (by rw[←z6];exact hI)) rfl (by simp) ?_ (by simp) (by simp);simp
  ·have z7:(a.mv[j].src==s)=false:=by simpa using he
   rw[decide_eq_false he,Bool.false_and,if_neg (by simp)]at z6;repeat first|(refine r_ ?_;simp)|refine q_ ?_
   refine Qj tOk mixed [] (.val 0 (.val 1 (.val 2 (.val 3 (.val 4 (.val 5 (.val 6 (.val 7 (.val 8 (.val 9 (.val 10 (.val 11 (.val 12 (.val 13 (.val 14 (.val 15 (.one 16 (.val 17 (.done))))))))))))))))))) rfl (by kernel_rfl) ?_;simp[z1,z7];refine Qx rfl rfl ?_;simp;repeat first|(refine r_ ?_;simp)|refine q_ ?_
   refine Qs rfl ?_;repeat first|(refine r_ ?_;simp[hw])|refine q_ ?_
   refine Qo _ (ih z1 (by rw[←z6];exact hI)) rfl (by simp) ?_ (by simp) (by simp);simp
 ·have z8:j=a.mv.length:=by simp at zb;omega
  subst z8;repeat first|(refine r_ ?_;simp)|refine q_ ?_
  rw[←hI,u1q]
end Go.Abs
namespace Go.Abs
open Go Go.Proofs Go.Maps Go.RowKit
theorem x0y{a b:Aut}(ha:OkA a)(hb:OkA b)(ht:b.types=a.types):(∀p∈onA a++onA b,PCk a.types.toNat p)∧(onA a++onA b).length≤4096:=by
 refine⟨fun p hp=> ?_,?_⟩
 ·rcases zO.1 hp with h|h
  ·exact Hu ha p h
  ·rw[←ht];exact Hu hb p h
 ·have h1:=ha.mvs;have h2:=hb.mvs;simp[onA];omega
attribute [local irreducible] Qn Qy
theorem Nr(a b:Aut)(ha:OkA a)(hb:OkA b)(ht:b.types=a.types):PC Tryz.prog 146 [encA a,encA b] (fun r=>r=LSy (Wx a b)):=by
 refine Qh tOk Tryz.func146 rfl Tryz.results146 rfl (by simp[Tryz.ntmps146]) ?_;rw[Tryz.ntmps146];simp only[Qe];simp only[encA];have zg:=ha.mvs;have zh:=hb.mvs;obtain⟨zc,za⟩:=x0y ha hb ht;have z6:=S5 (T:=a.types.toNat) (by have:=ha.types;omega) (by have:=ha.types;omega) zc za;unfold Wx;repeat first|(refine r_ ?_;simp)|refine q_ ?_
 refine Qc rfl rfl (by simp) (Ci a (by omega)) rfl ?_;rintro _ rfl;simp;refine Qf tOk rfl rfl T87 rfl T70 rfl (by decide) (by decide) rfl rfl rfl ?_;simp;refine⟨⟨fun y hy=> ?_,by simp[onA];omega⟩,?_⟩
 ·obtain⟨c',_,rfl⟩:=zN.1 hy;exact⟨rfl,rfl⟩
 repeat first|(refine r_ ?_;simp)|refine q_ ?_
 refine Qc rfl rfl (by simp) (Ci b (by omega)) rfl ?_;rintro _ rfl;simp;refine Qf tOk rfl rfl T87 rfl T70 rfl (by decide) (by decide) rfl rfl rfl ?_;simp;refine⟨⟨fun y hy=> ?_,by simp[onA];omega⟩,?_⟩
 ·obtain⟨c',_,rfl⟩:=zN.1 hy;exact⟨rfl,rfl⟩
 repeat first|(refine r_ ?_;simp)|refine q_ ?_
 refine Wc 3 (e:=70) (c:=1) (xs:=(onA a).map encP++(onA b).map encP) rfl ?_;simp[AV.fz];rw[zM (by simp),←yM];refine Qc rfl rfl (by simp) (X7 a.types (onA a++onA b) ha.types zc za) rfl ?_;rintro _ rfl;simp;generalize Qy a.types.toNat (onA a++onA b)=cl at *;refine Q3 (sl':=[(6,.list (cl.map encP)),(4,.nils)]) ?_ (by simp)
 repeat first|(refine r_ ?_;simp)|refine q_ ?_
 refine Q6 7 52 2 rfl ?_;simp;refine Ql (Qb (sl':=[(6,.list (cl.map encP)),(7,.sl 4 2 0 0),(8,.i 0)]) ?_ (by simp));obtain⟨K,hK⟩:∃K,K=[AObj.vars [AV.i a.types,AV.list (xH AV.bool a.fin),AV.list (xH encMv a.mv)],AObj.vars [AV.i b.types,AV.list (xH AV.bool b.fin),AV.list (xH encMv b.mv)],AObj.dead,AObj.dead]:=⟨_,rfl⟩
 have hst:=SL.start K 52 2;refine Qm (F:=fun(u:Nat×Nat×List AObj)=>⟨[(6,.list (cl.map encP)),(7,.sl u.2.1 2 0 u.1),(8,.i u.1)],u.2.2⟩)
  (fun u=>u.1≤cl.length∧SL K u.2.2 u.2.1 52 2 (((cl.take u.1).map Qn).map encSy)) (fun u=>cl.length - u.1) ?_ (0,4,_) ⟨by simp,by rw[hK]at hst ⊢;exact hst⟩
 rintro⟨j,q,H2⟩ ⟨hj,g⟩ ih;simp only at hj g ih ⊢;repeat first|(refine r_ ?_;simp)|refine q_ ?_
 refine Qa rfl (fun zi=> ?_) (fun zj=> ?_)
 ·have z1:j<cl.length:=by simpa using zi
  have hw:IntKind.i64.wrap ((j:Int)+1)=j+1:=wrap_i64 _ (by omega) (by omega);have zk:((cl.take (j+1)).map Qn).map encSy=((cl.take j).map Qn).map encSy++[encSy (Qn cl[j])]:=by rw[zJ z1,yM,yM];rfl
  have z7:(((cl.take j).map Qn).map encSy).length=j:=by simp;omega
  have zd:=fun q' H'=>ih (j+1,q',H');simp only[zk]at zd;have zl:=z6.2 _ (zG z1);have za:=z6.1;have ze:(xH encP cl)[j]? =some (encP cl[j]):=by simp[z1]
  have zf:∀hh,(xH encP cl)[j]'hh=encP cl[j]:=fun hh=>by simp
  generalize ((cl.take j).map Qn).map encSy=acc at *;generalize cl[j]=c at *;simp only[encP]at ze zf
  repeat first|(refine r_ ?_;simp[z1,ze,zf])|refine q_ ?_
  refine Qc rfl rfl (by simp) (Sn c zl.2.1) rfl ?_;rintro _ rfl;simp;refine Qf tOk rfl rfl T26 rfl T52 rfl (by decide) (by decide) rfl rfl rfl ?_;simp[Qd g.arr,Qk g.arr,z7];refine⟨by simp[Wu,Qd g.arr,Qk g.arr,z7]<;>omega,?_⟩;repeat first|(refine r_ ?_;simp[hw])|refine q_ ?_
  exact Qb (sl':=[(6,.list (cl.map encP)),(7,.sl (H2.length+1) 2 0 (j+1)),(8,.i (j+1:Nat))]) (zd (H2.length+1) _ ⟨by omega,g.put [AObj.arr 52 2 [encSy (Qn c)]] _ rfl⟩ (by omega)) (by simp)
 ·have zb:j=cl.length:=by simp at zj;omega
  subst zb;have ga:=g.arr;rw[zX]at ga;have z7:((cl.map Qn).map encSy).length=cl.length:=by simp
  obtain⟨acc,z8⟩:∃acc,acc=(cl.map Qn).map encSy:=⟨_,rfl⟩
  rw[←z8]at ga z7;repeat first|(refine r_ ?_;simp[ga,z7])|refine q_ ?_
  rw[zM (by omega),z8];simp
end Go.Abs
namespace Go.Abs
open Go Go.Proofs Go.Maps Go.RowKit
attribute [simp] y2c y29
abbrev PQ:=(Int×Int)×List Sy
def x27(e:PQ):AV:= .agg [.i e.1.1,.i e.1.2,.list (e.2.map encSy)]
def q2a(L:List PQ)(s:Int×Int):Bool:=decide (s∈L.map (·.1))
structure PInv (a b:Aut) (L:List PQ):Prop where
 nd:(L.map (·.1)).Nodup
 rng:∀e∈L,inS a e.1.1∧inS b e.1.2
 wl:∀(i:Nat) (e:PQ),L[i]? =some e→e.2.length≤i
theorem u0j{good:Int×Int→Bool}{succ:Int×Int→List (Sy×(Int×Int))}{f n:Nat}{L:List PQ}(h:L[n]? =none):Jf good succ f n L=(none,L):=by
 cases f with
 |zero=>rw[Jf]
 |succ f=>rw[Jf,h]
theorem f0x{good:Int×Int→Bool}{succ:Int×Int→List (Sy×(Int×Int))}{f n:Nat}{L:List PQ}{s:Int×Int}{w:List Sy}(h:L[n]? =some (s,w)):Jf good succ (f+1) n L=if good s=true then(some w,L)else Jf good succ f (n+1) (Ei L w (succ s)):=by rw[Jf,h]
theorem w0e(L:List PQ)(w:List Sy):Ei L w ([]:List (Sy×(Int×Int)))=L:=rfl
def y2u(r:Option (List Sy)):AV:= .tup [LSy (r.getD []),.bool r.isSome]
theorem Nk{a b:Aut}(ha:OkA a)(hb:OkA b)(ht:b.types=a.types):(Wx a b).length≤40000000:=by obtain⟨z1,z6⟩:=x0y ha hb ht;have:=(S5 (T:=a.types.toNat) (by have:=ha.types;omega) (by have:=ha.types;omega) z1 z6).1;unfold Wx;simpa using this
attribute [local irreducible] Wx toL Jf Ei Hs q2a K5 Dl
end Go.Abs
namespace Go.Abs
open Go Go.Proofs Go.Maps Go.RowKit
instance inS_dec (a:Aut) (s:Int):Decidable (inS a s):=by unfold inS;exact inferInstance
def x23(a:Aut)(p q:Int):Option (List Sy)×Int:=if Tl a≠0 then(none,Tl a)else if inS a p∧inS a q then((Dl a a p q).1,0)else(none,6)
def y2s(r:Option (List Sy)×Int):AV:= .tup [LSy (r.1.getD []),.bool r.1.isSome,.i r.2]
attribute [local irreducible] Tl Dl
abbrev y28 (l:List Nat):List Int:=l.map fun x:Nat=>(x:Int)
attribute [local irreducible] eqS y2y
def x24(a:Aut):List Int×Int:=if Tl a≠0 then([],Tl a)else(y28 (clA a),0)
end Go.Abs
namespace Go.Abs
theorem Vs{a b:Aut}(ha:Dfa a)(hb:OkA b)(ht:b.types=a.types){w:List Sy}(hw:∀z∈w,Wy a z)(h1:Rz b w=true)(h2:Rz a w=false):∃v:List Sy,v.length+1≤b.fin.length * (a.fin.length+1)∧(∀z∈v,Wy a z)∧Rz b v=true∧Rz a v=false:=by
 have hz:inS b 0:=⟨yG _,by have:=hb.fin;omega⟩
 have z1:∀v,Rz b v=true↔d0h b 0 v:=fun v=>by unfold Rz;rw[C2];simp
 have hst:∀l∈(Wp a.fin.length).map (fun i=>[i]),∀x,Wy a x→Q0 a l x=[]∨Q0 a l x∈(Wp a.fin.length).map (fun i=>[i]):=fun l hl x hx=>by obtain⟨i,hi,rfl⟩:=zN.1 hl;obtain⟨h3,h4⟩:=ha.next (Wq.1 hi) hx;rw[h4];exact .inr (zN.2 ⟨_,Wq.2 h3,rfl⟩)
 obtain⟨k,_,hk⟩:=j17 (a:=a) (b:=b) (s:=(0,[0])) w.length ⟨w,rfl,hw,(z1 w).1 h1,h2⟩;have z6:=w1h hst (b:=b) (s:=(0,[0])) ⟨hz,.inr (zN.2 ⟨0,Wq.2 ha.zero,rfl⟩)⟩ hk;obtain⟨⟨v,hv,z7,v1,v2⟩,_⟩:=hk;have hl:((Wp a.fin.length).map fun i=>[i]).length=a.fin.length:=by simp[Wp]
 rw[hl]at z6;exact⟨v,by rw[hv];exact z6,z7,(z1 v).2 v1,v2⟩
theorem u1d{a b:Aut}(ha:Dfa a)(hb:Dfa b)(ht:b.types=a.types)(z1:a.fin.length≤8)(z6:b.fin.length≤8){w:List Sy}(h:FirstP (Wy a) (wnd neB a b) w):w.length≤4096:=by
 have hh:=h.hit;unfold wnd neB at hh;cases h1:Rz a w with
 |true=>
  cases h2:Rz b w with
  |true=>rw[h1,h2]at hh;cases hh
  |false=>obtain⟨v,v1,v2,v3,v4⟩:=Vs hb ha.ok ht.symm (fun z hz=>(R0 ht).2 (h.okw z hz)) h1 h2;have:=k0n (h.least v (fun z hz=>(R0 ht).1 (v2 z hz)) (by unfold wnd neB;rw[v3,v4];rfl));have:=vM z1 (show b.fin.length+1≤9 by omega);omega
 |false=>
  cases h2:Rz b w with
  |false=>rw[h1,h2]at hh;cases hh
  |true=>obtain⟨v,v1,v2,v3,v4⟩:=Vs ha hb.ok ht h.okw h2 h1;have:=k0n (h.least v v2 (by unfold wnd neB;rw[v3,v4];rfl));have:=vM z6 (show a.fin.length+1≤9 by omega);omega
structure EqC where
 verdict:Int
 pairs:List (Int×Int)
 word:List Sy
def u1w:EqC:=⟨0,[],[]⟩
def Eo(a b:Aut):Int:=if Wj a≠0 then Wj a else if Wj b≠0 then Wj b else if a.types≠b.types then 15 else 0
def E8(a b:Aut):Int:=if Eo a b≠0 then Eo a b else if Tl a≠0∨Tl b≠0 then 3 else 0
def Ml(a b:Aut):EqC×Int:=if E8 a b≠0 then(u1w,E8 a b)else match (Hg a b neB).1 with
 |some w=>(⟨2,[],w⟩,0)
 |none=>if 2048<(Tv a b).length then(u1w,5)else(⟨1,Tn (Tv a b),[]⟩,0)
def inQ(a b:Aut)(s:Int×Int):Bool:=decide (inS a s.1∧inS b s.2)
instance (a:Aut) (s:Int):Decidable (inS a s):=inferInstanceAs (Decidable (0≤s∧s<(a.fin.length:Int)))
def Yt(a b:Aut)(x:EqC):Int:=if x.verdict≠1∧x.verdict≠2 then 1 else if(x.verdict=1∧0<x.word.length)∨(x.verdict=2∧0<x.pairs.length)then 3
 else if 2048<x.pairs.length∨4096<x.word.length then 5 else if x.pairs.all (fun s=>decide (inS a s.1∧inS b s.2))=false then 6 else Z7 a.types x.word
def Zz(a b:Aut)(x:EqC):Int:=if E8 a b≠0 then E8 a b else if Yt a b x≠0 then Yt a b x else if(if x.verdict=1 then Pd a b x.pairs else Rz a x.word != Rz b x.word)=true then 0 else 18
def Tj(a b:Aut):Int:=if Eo a b≠0 then Eo a b else if(Ro a).1≠0 then(Ro a).1 else(Ro b).1
def u1m(a b:Aut):(List Sy×Bool)×Int:=if Tj a b≠0 then(([],false),Tj a b)else match (Hg (Ro a).2 (Ro b).2 y1v).1 with
 |some w=>((w,false),0)
 |none=>(([],true),0)
def x1n(a b:Aut):(List Sy×Bool)×Int:=if Tj a b≠0 then(([],false),Tj a b)else match (Hg (Ro a).2 (Ro b).2 neB).1 with
 |some w=>((w,true),0)
 |none=>(([],false),0)
theorem Ui{a b:Aut}:Eo a b=0↔OkA a∧OkA b∧b.types=a.types:=by
 unfold Eo;by_cases h1:Wj a≠0
 ·rw[if_pos h1];exact⟨fun h=>absurd h h1,fun h=>absurd ((Oc a).2 h.1) h1⟩
 rw[if_neg h1];by_cases h2:Wj b≠0
 ·rw[if_pos h2];exact⟨fun h=>absurd h h2,fun h=>absurd ((Oc b).2 h.2.1) h2⟩
 rw[if_neg h2];by_cases h3:a.types≠b.types
 ·rw[if_pos h3];exact⟨fun h=>(by cases h),fun h=>absurd h.2.2.symm h3⟩
 rw[if_neg h3];exact⟨fun _=>⟨(Oc a).1 (Decidable.not_not.1 h1),(Oc b).1 (Decidable.not_not.1 h2),(Decidable.not_not.1 h3).symm⟩,fun _=>rfl⟩
theorem Yx{a b:Aut}:E8 a b=0↔Dfa a∧Dfa b∧b.types=a.types:=by
 unfold E8;by_cases h1:Eo a b≠0
 ·rw[if_pos h1];exact⟨fun h=>absurd h h1,fun h=>absurd (Ui.2 ⟨h.1.ok,h.2.1.ok,h.2.2⟩) h1⟩
 rw[if_neg h1];have hb:=Ui.1 (Decidable.not_not.1 h1);by_cases h2:Tl a≠0∨Tl b≠0
 ·rw[if_pos h2];exact⟨fun h=>(by cases h),fun h=>h2.elim (fun k=>absurd ((Y7 a).2 h.1) k) (fun k=>absurd ((Y7 b).2 h.2.1) k)⟩
 rw[if_neg h2];exact⟨fun _=>⟨(Y7 a).1 (Decidable.not_not.1 fun k=>h2 (.inl k)),(Y7 b).1 (Decidable.not_not.1 fun k=>h2 (.inr k)),hb.2.2⟩,fun _=>rfl⟩
theorem c0d{a b:Aut}(ha:Dta a)(hb:Dta b)(ht:b.types=a.types){wn:Bool→Bool→Bool}{w:List Sy}(h:(Hg a b wn).1=some w):FirstP (Wy a) (wnd wn a b) w:=by
 rcases Tt ha hb ht wn with⟨v,L,h1,h2⟩|⟨L,h1,_⟩
 ·rw[h1]at h;obtain rfl:=Option.some.inj h;exact h2
 ·rw[h1]at h;cases h
theorem w18{a b:Aut}(ha:Dfa a)(hb:Dfa b)(ht:b.types=a.types)(hn:(Hg a b neB).1=none):(Tv a b).length≤a.fin.length * b.fin.length∧∀s∈Tv a b,inS a s.1∧inS b s.2:=by
 obtain⟨h1,_,h3⟩:=Fw ⟨ha.ok,ha.det⟩ ⟨hb.ok,hb.det⟩ ht hn;have z1:∀s∈Tv a b,inS a s.1∧inS b s.2:=fun s hs=>by
  obtain⟨v,hv,e⟩:=(h3 s).1 hs;rw[Yw]at e;rw[←e];have st:∀ {c:Aut},Dfa c→∀(w:List Sy) (s:Int),inS c s→(∀x∈w,Wy c x)→inS c (stF c s w):=fun {c} hc w=>by
   induction w with
   |nil=>intro s hs _;exact hs
   |cons x w ih=>intro s hs hw;exact ih _ (hc.next hs (hw x (by simp))).1 fun y hy=>hw y (by simp[hy])
  exact⟨st ha v 0 ha.zero hv,st hb v 0 hb.zero fun x hx=>(R0 ht).2 (hv x hx)⟩
 refine⟨?_,z1⟩;rw[←Ve];exact Pc _ _ h1 fun s hs=>C1 (z1 s hs).1 (z1 s hs).2
theorem f0m{a b:Aut}(hf:E8 a b=0)(z1:a.fin.length≤8)(z6:b.fin.length≤8):(Ml a b).2=0∧Zz a b (Ml a b).1=0∧(((Ml a b).1.verdict=1∧∀w,(∀x∈w,Wy a x)→Rz a w=Rz b w)∨((Ml a b).1.verdict=2∧∃w,(∀x∈w,Wy a x)∧Rz a w≠Rz b w)):=by
 obtain⟨ha,hb,ht⟩:=Yx.1 hf;have da:Dta a:=⟨ha.ok,ha.det⟩
 have db:Dta b:=⟨hb.ok,hb.det⟩
 unfold Ml;rw[if_neg (fun k=>k hf)];cases hs:(Hg a b neB).1 with
 |some w=>
  have hw:=c0d da db ht hs;have hl:=u1d ha hb ht z1 z6 hw;have z7:(Rz a w != Rz b w)=true:=hw.hit;refine⟨rfl,?_,.inr ⟨rfl,w,hw.okw,by simpa using z7⟩⟩;have hp:Yt a b ⟨2,[],w⟩=0:=by unfold Yt;rw[if_neg (by simp),if_neg (by simp),if_neg (by simp;omega),if_neg (by simp)];exact(Kr w).2 fun x hx=>(Dy _ _).2 (hw.okw x hx)
  unfold Zz;rw[if_neg (fun k=>k hf),if_neg (fun k=>k hp)];simp only;rw[if_neg (by decide:¬(2:Int)=1),if_pos z7]
 |none=>
  obtain⟨hl,z8⟩:=w18 ha hb ht hs;have:=vM z1 z6;simp only;rw[if_neg (by omega)];refine⟨rfl,?_,.inl ⟨rfl,z02 ha hb ht (Cf ha hb ht hs)⟩⟩;have za:(Tn (Tv a b)).length=(Tv a b).length:=(wI _ _).length_eq;have hp:Yt a b ⟨1,Tn (Tv a b),[]⟩=0:=by
   unfold Yt;rw[if_neg (by simp),if_neg (by simp),if_neg (by simp;omega),if_neg]
   ·rfl
   ·simp only[uY];rw[zP];intro s hm;exact decide_eq_true (z8 s (Te.1 hm))
  unfold Zz;rw[if_neg (fun k=>k hf),if_neg (fun k=>k hp)];simp only;rw[if_pos trivial,if_pos (Cf ha hb ht hs)]
end Go.Abs
namespace Go.Abs
section
variable {a b:Aut}
theorem Ca(hb:Eo a b=0):Tj a b=0↔(Ro a).1=0∧(Ro b).1=0:=by
 unfold Tj;rw[if_neg (fun k=>k hb)];by_cases h:(Ro a).1≠0
 ·rw[if_pos h];exact⟨fun k=>absurd k h,fun k=>absurd k.1 h⟩
 ·rw[if_neg h];exact⟨fun k=>⟨Decidable.not_not.1 h,k⟩,fun k=>k.2⟩
theorem q0w{a:Aut}(h:(Ro a).1=0):Ro a=(0,(Ro a).2):=tG h rfl
structure IncW (a b:Aut) (n:Nat) (w:List Sy):Prop where
 okw:∀z∈w,Wy a z
 len:w.length≤4096
 yes:Rz b w=true
 no:Rz a w=false
 far:n≤w.length
end
end Go.Abs
namespace Go.Abs
theorem k08{a b:Aut}(hf:E8 a b=0){l:List (Int×Int)}(hl:l.length≤2048)(z1:∀s∈l,inS a s.1∧inS b s.2):Zz a b ⟨1,l,[]⟩=if Pd a b l=true then 0 else 18:=by
 have hp:Yt a b ⟨1,l,[]⟩=0:=by
  unfold Yt;rw[if_neg (by simp),if_neg (by simp),if_neg (by simp;omega),if_neg]
  ·rfl
  ·simp only[uY];rw[zP];exact fun s hm=>decide_eq_true (z1 s hm)
 unfold Zz;rw[if_neg (fun k=>k hf),if_neg (fun k=>k hp)];simp only;rw[if_pos trivial]
def x2z(a b:Aut):List (Int×Int):=(Wp a.fin.length).flatMap fun i=>(Wp b.fin.length).map fun j=>(i,j)
end Go.Abs
namespace Go.Abs
def w28:Prd:=[[⟨-1099511627776,1099511627776⟩]]
def w22:Prd:=[[⟨-1099511627776,4⟩]]
def v1n:Prd:=[[⟨5,1099511627776⟩]]
def exQ:Aut:=⟨1,[false,true],[⟨0,1,w28⟩,⟨1,0,w28⟩]⟩
def exR:Aut:=⟨1,[false,true],[⟨0,1,w22⟩,⟨0,0,v1n⟩,⟨1,0,w22⟩,⟨1,1,v1n⟩]⟩
theorem q2z:Tl exQ=0:=by decide+kernel
theorem w29:Tl exR=0:=by decide+kernel
theorem An:Dfa exQ:=(Y7 _).1 q2z
theorem g08:Dfa exR:=(Y7 _).1 w29
theorem f1m:Wj exQ=0:=by decide+kernel
theorem c1o:Wj exR=0:=by decide+kernel
theorem g0l:E8 exQ exR=0:=Yx.2 ⟨An,g08,rfl⟩
theorem K7:E8 exQ exQ=0:=Yx.2 ⟨An,An,rfl⟩
theorem g0p:(Dl exQ exR 0 0).1=some [⟨0,5⟩]:=by kernel_rfl
theorem d0p:(Dl exQ exQ 0 0).1=none:=by kernel_rfl
theorem f1g:(x1c exQ exR y1v).1=some [⟨0,-1099511627776⟩,⟨0,5⟩]:=by kernel_rfl
theorem x17:Cn exQ exQ=[(0,0),(1,1)]:=by kernel_rfl
theorem v1q:Pd exQ exQ [(0,0)]=false:=by kernel_rfl
def xqC:List Prd:=[w28]
def xrC:List Prd:=[w22,v1n]
def xqQ:List (List Int):=[[0],[1]]
theorem q1w:(Ll exQ.types (onA exQ)).1=0∧(Ll exQ.types (onA exQ)).2=xqC:=by decide+kernel
theorem q1c:(Ll exR.types (onA exR)).1=0∧(Ll exR.types (onA exR)).2=xrC:=by decide+kernel
theorem c0b:Fh exQ xqC=some xqQ:=by decide+kernel
theorem c0n:Fh exR xrC=some xqQ:=by decide+kernel
theorem w1i:Uc exQ xqC xqQ=exQ:=by kernel_rfl
theorem w1q:Uc exR xrC xqQ=exR:=by kernel_rfl
theorem k1f:Xp exQ=false:=by decide+kernel
theorem x1i:Xp exR=false:=by decide+kernel
theorem y10{a d:Aut}{C:List Prd}{Q:List (List Int)}(hk:Wj a=0)(hm:(Ll a.types (onA a)).1=0∧(Ll a.types (onA a)).2=C)(hs:Fh a C=some Q)(hd:Uc a C Q=d)(hb:Xp d=false):Ro a=(0,d):=by
 have z6:Rn a.types (onA a)=(0,C):=by rw[←k0p];exact tG hm.1 hm.2
 have z1:O5 a=(0,C,Q):=by
  rw[O5,if_neg (fun k=>k hk),z6];rw[if_neg (by simp)];split
  ·rename_i h;have h2:Fh a C=none:=h;rw[hs]at h2;cases h2
  ·rename_i R h;have h2:Fh a C=some R:=h;rw[hs]at h2;rw[←Option.some.inj h2]
 rw[Ro,z1,if_neg (by simp)];show f07 (Uc a C Q)=_;rw[hd,Mu,hb];rfl
theorem L7:Ro exQ=(0,exQ):=y10 f1m q1w c0b w1i k1f
theorem Li:Ro exR=(0,exR):=y10 c1o q1c c0n w1q x1i
theorem u1v:Eo exQ exR=0:=Ui.2 ⟨An.ok,g08.ok,rfl⟩
theorem x0l:Tj exQ exR=0:=(Ca u1v).2 ⟨by rw[L7],by rw[Li]⟩
theorem y1m:Ml exQ exR=(⟨2,[],[⟨0,5⟩]⟩,0):=by rw[Ml,if_neg (fun k=>k g0l),←A7 An g08 rfl,g0p]
theorem g09:(Hg exQ exQ neB).1=none:=by rw[←A7 An An rfl,d0p]
theorem k0l:Tn (Tv exQ exQ)=[(0,0),(1,1)]:=by obtain⟨h1,h2,h3⟩:=Fw ⟨An.ok,An.det⟩ ⟨An.ok,An.det⟩ rfl g09;rw[h2,x17];exact Aq (D0 (by decide)) (by simp[pLt]) fun s=>Te
theorem j0e:Ml exQ exQ=(⟨1,[(0,0),(1,1)],[]⟩,0):=by
 have hl:(Tv exQ exQ).length=2:=by rw[←(wI (Tv exQ exQ) pLe).length_eq];show(Tn (Tv exQ exQ)).length=2;rw[k0l];rfl
 rw[Ml,if_neg (fun k=>k K7),g09];simp only;rw[if_neg (by omega),k0l]
theorem f1j:x1n exQ exR=(([⟨0,5⟩],true),0):=by rw[x1n,if_neg (fun k=>k x0l),L7,Li,←A7 An g08 rfl,g0p]
theorem u1s:u1m exQ exR=(([⟨0,-1099511627776⟩,⟨0,5⟩],false),0):=by rw[u1m,if_neg (fun k=>k x0l)];have:=y0f An.ok g08.ok rfl L7 Li y1v;rw[L7,Li,←this,f1g]
theorem u17:Zz exQ exR ⟨2,[],[⟨0,5⟩]⟩=0:=by have:=(f0m g0l (by decide) (by decide)).2.1;rw[y1m]at this;exact this
theorem v1h:Zz exQ exQ ⟨1,[(0,0),(1,1)],[]⟩=0:=by have:=(f0m K7 (by decide) (by decide)).2.1;rw[j0e]at this;exact this
theorem k1d:Zz exQ exQ ⟨1,[(0,0)],[]⟩=18:=by rw[k08 K7 (by decide) (fun s hs=>by rw[zK]at hs;subst hs;decide),v1q];rfl
end Go.Abs
namespace Go.Abs
end Go.Abs
namespace Go.Abs
end Go.Abs
namespace Go.Abs
def x0f:List Iv→Int→Option Int
 |[],_=>none
 |x::l,n=>if n≤x.hi then some (max x.lo n)else x0f l n
def Mh:List Iv→Int→Int
 |[],n=>n
 |x::l,n=>Mh l (if x.lo≤n∧n≤x.hi then x.hi+1 else n)
def j09:List (List Iv)→Int→Option Int
 |[],n=>some n
 |l::I,n=>match x0f l n with|some m=>j09 I m|none=>none
def x0x:List (List Iv)→Int→Int
 |[],n=>n
 |l::O,n=>x0x O (Mh l n)
theorem Mx:∀(l:List Iv) (n:Int),Sep l→match x0f l n with|some m=>M l m∧n≤m∧∀k,M l k→n≤k→m≤k|none=>∀k,M l k→k<n
 |[],n,_=>fun k h=>absurd h f0c
 |x::l,n,h=>by
  have hx:=h.1 x (by simp);have sx:=g1y h;rw[x0f];by_cases h1:n≤x.hi
  ·rw[if_pos h1];refine⟨Uh.2 (.inl (by omega)),by omega,fun k hk hn=> ?_⟩;rcases Uh.1 hk with k1|k1
   ·omega
   ·have:=sx k k1;omega
  ·rw[if_neg h1];have ih:=Mx l n (w1g h);cases hc:x0f l n with
   |some m=>
    rw[hc]at ih;obtain⟨i1,i2,i3⟩:=ih;refine⟨Uh.2 (.inr i1),i2,fun k hk hn=> ?_⟩;rcases Uh.1 hk with k1|k1
    ·omega
    ·exact i3 k k1 hn
   |none=>
    rw[hc]at ih;intro k hk;rcases Uh.1 hk with k1|k1
    ·omega
    ·exact ih k k1
theorem Le:∀(l:List Iv) (n:Int),n≤Mh l n∧(∀k,n≤k→¬M l k→Mh l n≤k)∧(Mh l n=n→¬M l n)
 |[],n=>⟨yG _,fun k h _=>h,fun _=>f0c⟩
 |x::l,n=>by
  rw[Mh];by_cases h:x.lo≤n∧n≤x.hi
  ·rw[if_pos h];obtain⟨i1,i2,i3⟩:=Le l (x.hi+1);refine⟨by omega,fun k hk hn=>i2 k ?_ (fun hm=>hn (Uh.2 (.inr hm))),fun e=>by omega⟩;have:¬(x.lo≤k∧k≤x.hi):=fun hm=>hn (Uh.2 (.inl hm));omega
  ·rw[if_neg h];obtain⟨i1,i2,i3⟩:=Le l n;exact⟨i1,fun k hk hn=>i2 k hk fun hm=>hn (Uh.2 (.inr hm)),fun e hm=>(Uh.1 hm).elim h (i3 e)⟩
theorem q0u:∀(I:List (List Iv)) (n:Int),(∀l∈I,Sep l)→match j09 I n with|some m=>n≤m∧(∀k,n≤k→(∀l∈I,M l k)→m≤k)∧(m=n→∀l∈I,M l n)|none=>∀k,n≤k→¬ ∀l∈I,M l k
 |[],n,_=>⟨yG _,fun k h _=>h,fun _ l h=>by cases h⟩
 |l::I,n,h=>by
  have h1:=Mx l n (h l (by simp));rw[j09];cases hc:x0f l n with
  |none=>rw[hc]at h1;intro k hk hm;have:=h1 k (hm l (by simp));omega
  |some m=>
   rw[hc]at h1;obtain⟨a1,a2,a3⟩:=h1;have ih:=q0u I m fun l hl=>h l (by simp[hl]);simp only;cases hd:j09 I m with
   |none=>rw[hd]at ih;intro k hk hm;exact ih k (a3 k (hm l (by simp)) hk) fun j hj=>hm j (by simp[hj])
   |some m'=>
    rw[hd]at ih;obtain⟨b1,b2,b3⟩:=ih;refine⟨by omega,fun k hk hm=>b2 k (a3 k (hm l (by simp)) hk) fun j hj=>hm j (by simp[hj]),fun e j hj=> ?_⟩;have e1:m=n:=by omega
    rcases zU.1 hj with rfl|hj
    ·rw[←e1];exact a1
    ·rw[←e1];exact b3 (by omega) j hj
theorem Nz:∀(O:List (List Iv)) (n:Int),n≤x0x O n∧(∀k,n≤k→(∀l∈O,¬M l k)→x0x O n≤k)∧(x0x O n=n→∀l∈O,¬M l n)
 |[],n=>⟨yG _,fun k h _=>h,fun _ l h=>by cases h⟩
 |l::O,n=>by
  rw[x0x];obtain⟨h1,h2,h3⟩:=Le l n;obtain⟨i1,i2,i3⟩:=Nz O (Mh l n);refine⟨by omega,fun k hk hm=>i2 k (h2 k hk (hm l (by simp))) fun j hj=>hm j (by simp[hj]),fun e j hj=> ?_⟩;have e1:Mh l n=n:=by omega
  rcases zU.1 hj with rfl|hj
  ·exact h3 e1
  ·have:=i3 (by rw[e,e1]) j hj;rw[e1]at this;exact this
def y1r(I O:List (List Iv))(n:Int):Option Int:=match j09 I n with|some m=>some (x0x O m)|none=>none
def Gf(I O:List (List Iv))(k:Int):Prop:=(∀l∈I,M l k)∧∀l∈O,¬M l k
theorem d0a(I O:List (List Iv))(n:Int)(h:∀l∈I,Sep l):match y1r I O n with|some m=>n≤m∧(∀k,n≤k→Gf I O k→m≤k)∧(m=n→Gf I O n)|none=>∀k,n≤k→¬Gf I O k:=by
 have h1:=q0u I n h;unfold y1r;cases hc:j09 I n with
 |none=>rw[hc]at h1;exact fun k hk hg=>h1 k hk hg.1
 |some m=>
  rw[hc]at h1;obtain⟨a1,a2,a3⟩:=h1;obtain⟨b1,b2,b3⟩:=Nz O m;refine⟨by omega,fun k hk hg=>b2 k (a2 k hk hg.1) hg.2,fun e=> ?_⟩;have e1:m=n:=by omega
  refine⟨a3 e1,?_⟩;have:=b3 (by omega);rw[e1]at this;exact this
def Ah(t:Nat)(ps:List Prd):List (List Iv):=ps.map fun p=>p.getD t []
structure FitP (T:Nat) (ins outs:List Prd) (P:Prd):Prop where
 wf:PWf T P
 mem:∀t n,PM P t n↔t<T∧inR n∧(∀p∈ins,PM p t n)∧∀p∈outs,¬PM p t n
theorem Zu{ins outs:List Prd}{t:Nat}{n:Int}:Gf (Ah t ins) (Ah t outs) n↔(∀p∈ins,PM p t n)∧∀p∈outs,¬PM p t n:=by
 unfold Gf Ah;constructor
 ·rintro⟨h1,h2⟩;exact⟨fun p hp=>Zf.2 (h1 _ (zN.2 ⟨p,hp,rfl⟩)),fun p hp hm=>h2 _ (zN.2 ⟨p,hp,rfl⟩) (Zf.1 hm)⟩
 ·rintro⟨h1,h2⟩;refine⟨fun l hl=> ?_,fun l hl hm=> ?_⟩
  ·obtain⟨p,hp,rfl⟩:=zN.1 hl;exact Zf.1 (h1 p hp)
  ·obtain⟨p,hp,rfl⟩:=zN.1 hl;exact h2 p hp (Zf.2 hm)
def Zy(P:Prd):Option Sy:=if Wk P then none else some (Qn P)
theorem FitP.some{T:Nat}{ins outs:List Prd}{P:Prd}(h:FitP T ins outs P){t:Nat}{n:Int}(ht:t<T)(hb:∀t',t'<t→∀k,¬PM P t' k)(hn:inR n)(hg:Gf (Ah t ins) (Ah t outs) n)(hl:∀k,inR k→Gf (Ah t ins) (Ah t outs) k→n≤k):Zy P= .some ⟨t,n⟩:=by
 have hm:PM P t n:=(h.mem t n).2 ⟨ht,hn,Zu.1 hg⟩;obtain⟨g1,g2,g3⟩:=Fo h.wf ⟨t,n,hm⟩;unfold Zy;rw[if_neg (by rw[(Ns h.wf).2 ⟨t,n,hm⟩];simp)]
 congr 1
 rcases g3 ⟨t,n⟩ ⟨by simp,by simpa using ht,hn⟩ (by simpa using hm)with e|e
 ·exact e
 ·exfalso;have k:=(h.mem _ _).1 g2;rcases e with e|⟨e1,e2⟩
  ·simp only at e;exact hb _ (by have:=g1.1;omega) _ g2
  ·simp only at e1 e2;have e3:(Qn P).ty.toNat=t:=by omega
   rw[e3]at k;have:=hl _ k.2.1 (Zu.2 k.2.2);omega
theorem FitP.none{T:Nat}{ins outs:List Prd}{P:Prd}(h:FitP T ins outs P)(hb:∀t',t'<T→∀k,¬PM P t' k):Zy P= .none:=by unfold Zy;rw[if_pos ((E4 h.wf).2 fun t n hm=>hb t (h.wf.lt hm).1 n hm)]
theorem FitP.no{T:Nat}{ins outs:List Prd}{P:Prd}(h:FitP T ins outs P){t:Nat}(hb:∀k,inR k→¬Gf (Ah t ins) (Ah t outs) k)(k:Int):¬PM P t k:=fun hm=>by have:=(h.mem t k).1 hm;exact hb k this.2.1 (Zu.2 this.2.2)
end Go.Abs
namespace Go.Abs
def J7:Option Mv→List Prd
 |some m=>[m.on]
 |none=>[]
def Ps(a:Aut)(s:Int):Option Mv→List Prd
 |some _=>[]
 |none=>(mvS a s).map (·.on)
theorem Bl{a:Aut}(h:OkA a){s:Int}{o:Option Mv}(ho:o∈Wi a s):FitP a.types.toNat (J7 o) (Ps a s o) (Vx a s o):=by
 have hw:=Ku h ho;refine⟨hw,fun t n=> ?_⟩;cases o with
 |some m=>
  constructor
  ·intro hm;exact⟨(hw.lt hm).1,(hw.lt hm).2,fun p hp=>by rw[zK.1 hp];exact hm,fun p hp=>by cases hp⟩
  ·rintro⟨_,_,h1,_⟩;exact h1 m.on (zK.2 rfl)
 |none=>
  unfold Vx Ps J7;rw[Dv (G7 (G5 h s)),Ju (G5 h s)];constructor
  ·rintro⟨⟨h1,h2⟩,h3⟩;exact⟨h1,h2,fun p hp=>(by cases hp),fun p hp hm=>h3 ⟨p,hp,hm⟩⟩
  ·rintro⟨h1,h2,_,h3⟩;exact⟨⟨h1,h2⟩,fun⟨p,hp,hm⟩=>h3 p hp hm⟩
theorem u1e{a b:Aut}(ha:OkA a)(hb:OkA b)(ht:b.types=a.types){s:Int×Int}{o r:Option Mv}(ho:o∈Wi a s.1)(hr:r∈Wi b s.2):FitP a.types.toNat (J7 o++J7 r) (Ps a s.1 o++Ps b s.2 r) (B0 a b s o r):=by
 have f1:=Bl ha ho;have f2:=Bl hb hr;rw[ht]at f2;refine⟨Yo f1.wf f2.wf.1,fun t n=> ?_⟩;unfold B0;rw[Rc f1.wf.1 f2.wf.1,f1.mem,f2.mem];constructor
 ·rintro⟨⟨h1,h2,h3,h4⟩,_,_,h5,h6⟩;exact⟨h1,h2,fun p hp=>(zO.1 hp).elim (h3 p) (h5 p),fun p hp=>(zO.1 hp).elim (h4 p) (h6 p)⟩
 ·rintro⟨h1,h2,h3,h4⟩;exact⟨⟨h1,h2,fun p hp=>h3 p (y_ _ hp),fun p hp=>h4 p (y_ _ hp)⟩,h1,h2,fun p hp=>h3 p (vA _ hp),fun p hp=>h4 p (vA _ hp)⟩
theorem c0i(a b:Aut)(s:Int×Int)(o r:Option Mv):w15 a b s o r=(Zy (B0 a b s o r)).map fun x=>(x,(Ak o,Ak r)):=by
 unfold w15 Zy;by_cases h:Wk (B0 a b s o r)=true
 ·rw[if_pos h,if_pos h];rfl
 ·rw[if_neg h,if_neg h];rfl
def Cb(a:Aut)(s:Int):Bool:=(Zy (Vx a s none)).isSome
def Hp(a:Aut):Bool:=Lc a && (Wp a.fin.length).all fun s=> !Cb a s
theorem q0t{a:Aut}(h:OkA a)(s:Int):Cb a s=false↔∀x,Wy a x→∃m∈mvS a s,E5 m.on x=true:=by
 have hw:=Ku h (s:=s) (Uf.2 (.inl rfl));unfold Cb Zy;constructor
 ·intro hl x hx;have hv:Wk (Vx a s none)=true:=by
   by_cases hv:Wk (Vx a s none)=true
   ·exact hv
   ·rw[if_neg hv]at hl;cases hl
  have h1:=(E4 hw).1 hv x.ty.toNat x.num;have h2:¬ ∀m∈mvS a s,E5 m.on x=false:=fun k=>h1 ((Ii h s hx).2 k);simpa using h2
 ·intro z1;rw[if_pos]
  ·rfl
  ·refine(E4 hw).2 fun t n hm=> ?_;have z6:=hw.lt hm;have hx:Wy a ⟨t,n⟩:=Ic.1 ⟨by simp,by simpa using z6.1,z6.2⟩;obtain⟨m,h1,h2⟩:=z1 _ hx;have:=(Ii h s hx).1 (by unfold x0h;simpa using hm) m h1;rw[h2]at this;cases this
theorem j0j{a:Aut}(h:OkA a):Hp a=true↔Dfa a:=by
 unfold Hp;rw[Bool.and_eq_true,zP];constructor
 ·rintro⟨h1,h2⟩;refine⟨h,(V4 h.wfA).1 h1,fun s s0 s1 x hx=> ?_⟩;obtain⟨m,k1,k2⟩:=(q0t h s).1 (by have:=h2 s (Wq.2 ⟨s0,s1⟩);simpa using this) x hx;exact⟨m,(Rh.1 k1).1,(Rh.1 k1).2,k2⟩
 ·intro hd;refine⟨(V4 h.wfA).2 hd.det,fun s hs=> ?_⟩;have hs:=Wq.1 hs;have:=(q0t h s).2 fun x hx=>by obtain⟨m,k1,k2,k3⟩:=hd.full s hs.1 hs.2 x hx;exact⟨m,Rh.2 ⟨k1,k2⟩,k3⟩
  rw[this];rfl
theorem q09(a b:Aut):E8 a b=if Eo a b≠0 then Eo a b else if Hp a=false∨Hp b=false then 3 else 0:=by
 unfold E8;by_cases h1:Eo a b≠0
 ·rw[if_pos h1,if_pos h1]
 rw[if_neg h1,if_neg h1];obtain⟨ha,hb,_⟩:=Ui.1 (Decidable.not_not.1 h1);have e:∀ {c:Aut},OkA c→(Hp c=false↔Tl c≠0):=fun {c} hc=>by rw[←Bool.not_eq_true,j0j hc,←Y7]
 by_cases h2:Tl a≠0∨Tl b≠0
 ·rw[if_pos h2,if_pos (h2.imp (e ha).2 (e hb).2)]
 ·rw[if_neg h2,if_neg (fun k=>h2 (k.imp (e ha).1 (e hb).1))]
end Go.Abs
namespace Go.Abs
structure Vst where
 s:Int×Int
 fr:Nat
 on:Sy
 fst:Bool
structure VOk (V:List Vst) (L:List ((Int×Int)×List Sy)):Prop where
 len:V.length=L.length
 key:∀(i:Nat) (v:Vst) (e:(Int×Int)×List Sy),V[i]? =some v→L[i]? =some e→v.s=e.1
 way:∀(i:Nat) (v:Vst) (e:(Int×Int)×List Sy),V[i]? =some v→L[i]? =some e→(v.fst=true∧e.2=[])∨(v.fst=false∧v.fr<i∧∃e',L[v.fr]? =some e'∧e.2=e'.2++[v.on])
theorem VOk.start:VOk [⟨(0,0),0,⟨0,0⟩,true⟩] [((0,0),[])]:=by
 refine⟨rfl,fun i v e hv he=> ?_,fun i v e hv he=> ?_⟩
 ·have hi:i=0:=by have:=(zA.1 hv).1;simp at this;omega
  subst hi;simp at hv he;rw[←hv,←he]
 ·have hi:i=0:=by have:=(zA.1 hv).1;simp at this;omega
  subst hi;simp at hv he;rw[←hv,←he];exact .inl ⟨rfl,rfl⟩
theorem VOk.push{V:List Vst}{L:List ((Int×Int)×List Sy)}(h:VOk V L){n:Nat}{e:(Int×Int)×List Sy}(hn:L[n]? =some e)(t:Int×Int)(x:Sy):VOk (V++[⟨t,n,x,false⟩]) (L++[(t,e.2++[x])]):=by
 have z6:=(zA.1 hn).1;have hl:=h.len;refine⟨by simp[hl],fun i v d hv hd=> ?_,fun i v d hv hd=> ?_⟩
 ·by_cases hi:i<L.length
  ·rw[zE (by omega)]at hv hd;exact h.key i v d hv hd
  ·have z1:i=L.length:=by have:=(zA.1 hd).1;simp at this;omega
   rw[zC (by omega),z1]at hv hd;simp[hl]at hv hd;rw[←hv,←hd]
 ·by_cases hi:i<L.length
  ·rw[zE (by omega)]at hv hd;rcases h.way i v d hv hd with k|⟨k1,k2,e',k3,k4⟩
   ·exact .inl k
   ·exact .inr ⟨k1,k2,e',by rw[zE (by omega)];exact k3,k4⟩
  ·have z1:i=L.length:=by have:=(zA.1 hd).1;simp at this;omega
   rw[zC (by omega),z1]at hv hd;simp[hl]at hv hd;rw[←hv,←hd];exact .inr ⟨rfl,by simp;omega,e,by rw[zE z6];exact hn,rfl⟩
theorem VOk.pairs{V:List Vst}{L:List ((Int×Int)×List Sy)}(h:VOk V L):V.map (·.s)=L.map (·.1):=by
 refine List.ext_getElem (by simp[h.len]) fun i h1 h2=> ?_;have hl:i<L.length:=by simpa using h2
 have hv:i<V.length:=by rw[h.len];exact hl
 simp only[List.getElem_map];exact h.key i _ _ (zF hv) (zF hl)
structure DInv (a b:Aut) (L:List ((Int×Int)×List Sy)):Prop where
 nd:(L.map (·.1)).Nodup
 rng:∀e∈L,inD a e.1.1∧inD b e.1.2
theorem DInv.len{a b:Aut}{L:List ((Int×Int)×List Sy)}(h:DInv a b L):L.length≤(a.fin.length+1) * (b.fin.length+1):=by
 have e:L.length=(L.map (·.1)).length:=by rw[zV]
 rw[←Gc,e];refine Pc _ _ h.nd fun x hx=> ?_;obtain⟨e,he,rfl⟩:=zN.1 hx;exact Ga (h.rng e he).1 (h.rng e he).2
theorem DInv.add{a b:Aut}{L:List ((Int×Int)×List Sy)}(h:DInv a b L){t:Int×Int}{w:List Sy}(ht:inD a t.1∧inD b t.2)(hn:t∉L.map (·.1)):DInv a b (L++[(t,w)]):=by
 refine⟨?_,fun e he=> ?_⟩
 ·rw[yM,List.nodup_append];refine⟨h.nd,by simp,fun x hx y hy e=> ?_⟩;simp only[yK,List.map_nil,zK]at hy;exact hn (by rw[←hy,←e];exact hx)
 ·rcases zO.1 he with he|he
  ·exact h.rng e he
  ·rw[zK.1 he];exact ht
theorem DInv.start{a b:Aut}(ha:OkA a)(hb:OkA b):DInv a b [((0,0),[])]:=by have:=ha.fin;have:=hb.fin;exact⟨by simp,fun e he=>by rw[zK.1 he];exact⟨.inr ⟨yG _,by simp only;omega⟩,.inr ⟨yG _,by simp only;omega⟩⟩⟩
theorem u0z{a b:Aut}(ha:Dta a)(hb:Dta b)(ht:b.types=a.types){s:Int×Int}{e:Sy×(Int×Int)}(he:e∈Y2 a b s):inD a e.2.1∧inD b e.2.2:=by obtain⟨_,h2⟩:=(Po ha hb ht s).mem e he;rw[h2];exact⟨Jc ha.ok _ _,Jc hb.ok _ _⟩
end Go.Abs
