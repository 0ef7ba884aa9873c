/- Part Th of the proof: an abstract machine over the model, and what the functions of the program hand back in its terms. No condition. -/
import Derived.Test.YtjmkolhkojgjpaaGreatDoorTg
import Derived.Test.YtjmkolhkojgjpaaGreatDoorTc
import Derived.Test.YtjmkolhkojgjpaaGreatDoorTd
import Derived.Test.YtjmkolhkojgjpaaGreatDoorTf
import Derived.Test.YtjmkolhkojgjpaaGreatDoorTe
set_option linter.all false
open List renaming range→yD,take_length→yF,getElem?_eq_getElem→zF,take_succ_eq_append_getElem→zO,range_succ→vw,length_cons→yK,length_take→xM,length_append→zX,mem_of_getElem?→zC,mem_append→zN,mem_singleton→zK,mem_or_eq_of_mem_set→vz,mem_of_mem_take→yZ,getD→yP,getElem_mem→zH,getElem?_append_right→zE,getElem?_set_self→zG,getElem?_set_ne→zB,append_assoc→xQ,getElem?_append_left→zD,mem_cons→zU,not_mem_nil→vA,map_append→yU,length_map→zY,append_nil→xR,mem_append_left→yT,take_of_length_le→zS,mem_map→zL,mergeSort_perm→xZ,all_eq_true→zM,mem_append_right→wV,getElem?_eq_some_iff→zA
open Int renaming le_refl→yI
open Nat renaming mul_le_mul→vB
open Bool renaming not_eq_false→uM,and_eq_true→zQ
open Prod renaming ext→tl
set_option linter.unusedSimpArgs false
set_option maxRecDepth 100000
namespace Go.Abs
open Go Go.Proofs Go.Maps Go.RowKit
theorem u0p{a:Aut}(h:(Ov a).1=0):OkA a∧∃cl Q,Ov a=(0,cl,Q)∧Dg a cl=some Q∧Cls a cl∧Sub a cl Q∧cl.length≤256∧∀c∈cl,Gc [c]=0∧W2 c=false∧Wj a (Qi c)∧PWf a.types.toNat c∧∀s∈c,s.length≤256:=by
 have h0:We a=0:=by
  by_cases h0:We a=0
  ·exact h0
  ·rw[j0d h0]at h;exact absurd h h0
 have z1:=(I3 a).1 h0;have hm:(Ri a.types (onA a)).1=0:=by
  by_cases hm:(Ri a.types (onA a)).1=0
  ·exact hm
  ·rw[Ov,if_neg (fun k=>k h0),if_pos hm]at h;exact absurd h hm
 obtain⟨cl,h1,h2,h3,h4⟩:=Xt z1 hm;refine⟨z1,cl,?_⟩;rcases Fe z1 with h5|⟨Q,h5,h6,h7,h8⟩
 ·rw[h5]at h;simp at h
 ·have z6:Q4 a.types.toNat (onA a)=cl:=by
   have h9:(Ov a).2.1=cl:=by
    rw[Ov,if_neg (fun k=>k h0),if_neg (fun k=>k hm),h1];split
    ·rename_i hn;rw[Ov,if_neg (fun k=>k h0),if_neg (fun k=>k hm),h1]at h;simp only[hn]at h;simp at h
    ·rfl
   rw[h5]at h9;exact h9
  rw[z6]at h5 h6 h7 h8;exact⟨Q,h5,h6,h2,h7,h3,h4⟩
theorem x1p(H:List AObj)(id:Nat)(a:Aut)(hid:H[id]? =some (.vars (Qo a)))(s:Int)(h0:0≤s)(h1:s<a.fin.length):FC Tryz.prog 48 [.i s,.vptr id 0] H (fun r H'=>r= .bool (a.fin.getD s.toNat false)∧H'=H):=by
 refine W9 tOk Tryz.func48 rfl Tryz.results48 rfl (by simp[Tryz.ntmps48]) ?_;rw[Tryz.ntmps48];simp only[Qe];have h2:s.toNat<a.fin.length:=by omega
 repeat first|(refine r_ ?_;simp[hid,h0,h1,h2])|refine q_ ?_
def stepG(a:Aut)(Q:List (List Int))(n:Nat)(l:List Int)(g:List Mv)(c:Prd):List Mv:=match z0h Q (Qu a l (Qi c))with|some t=>U9 n g t c|none=>g
def Em(a:Aut)(cl:List Prd)(Q:List (List Int))(n:Nat)(l:List Int)(k:Nat):List Mv:=(cl.take k).foldl (stepG a Q n l) []
def Si(a:Aut)(cl:List Prd)(Q:List (List Int))(n:Nat):List Mv:=(yD n).flatMap fun n=>Xb a cl Q n (Q.getD n [])
theorem Dp(a:Aut)(cl:List Prd)(Q:List (List Int))(n:Nat)(l:List Int):Em a cl Q n l cl.length=Xb a cl Q n l:=by rw[Em,yF];rfl
theorem Vj(a:Aut)(cl:List Prd)(Q:List (List Int))(n:Nat)(l:List Int){k:Nat}{c:Prd}(h:cl[k]? =some c):Em a cl Q n l (k+1)=stepG a Q n l (Em a cl Q n l k) c:=by
 have hk:=Tp h;have hc:cl[k]=c:=by rw[zF hk]at h;exact Option.some.inj h
 rw[Em,zO hk,List.foldl_append,hc];rfl
theorem Xw(a:Aut)(cl:List Prd)(Q:List (List Int))(n:Nat):Si a cl Q (n+1)=Si a cl Q n++Xb a cl Q n (Q.getD n []):=by simp[Si,vw]
theorem y0z(n:Nat)(g:List Mv)(to:Nat)(c:Prd):(U9 n g to c).length≤g.length+1:=by
 unfold U9;split
 ·simp
 ·split<;>simp
theorem Xk(a:Aut)(Q:List (List Int))(n:Nat)(l:List Int):∀(cl:List Prd) (g:List Mv),(cl.foldl (stepG a Q n l) g).length≤g.length+cl.length
 |[],g=>by simp
 |c::cl,g=>by
  have h1:=Xk a Q n l cl (stepG a Q n l g c);have h2:(stepG a Q n l g c).length≤g.length+1:=by
   unfold stepG;split
   ·exact y0z _ _ _ _
   ·omega
  rw[List.foldl_cons,yK];omega
theorem F7(a:Aut)(cl:List Prd)(Q:List (List Int))(n:Nat)(l:List Int)(hc:cl.length≤256)(k:Nat):(Em a cl Q n l k).length≤256:=by have:=Xk a Q n l (cl.take k) [];rw[xM]at this;rw[Em];simp at this;omega
theorem j01(a:Aut)(cl:List Prd)(Q:List (List Int))(hq:Q.length≤256)(hc:cl.length≤256):∀n,n<Q.length→(Si a cl Q n).length≤n * 256∧(Si a cl Q n).length≤65536:=by
 have:∀n,(Si a cl Q n).length≤n * 256:=fun n=>by
  induction n with
  |zero=>simp[Si]
  |succ n ih=>
   have h:=F7 a cl Q n (Q.getD n []) hc cl.length;rw[Dp]at h;have:Si a cl Q (n+1)=Si a cl Q n++Xb a cl Q n (Q.getD n []):=by simp[Si,vw]
   rw[this,zX];omega
 exact fun n hn=>⟨this n,by have:=this n;omega⟩
theorem Mt(a:Aut)(cl:List Prd)(Q:List (List Int))(n:Nat)(l:List Int):Em a cl Q n l 0=[]:=rfl
theorem f0e{a:Aut}{Q:List (List Int)}(z1:∀l∈Q,l≠[]){n:Nat}{l:List Int}{g:List Mv}{c:Prd}(h:Qu a l (Qi c)=[]):stepG a Q n l g c=g:=by
 unfold stepG;rw[h];cases hq:z0h Q []with
 |none=>rfl
 |some t=>exact absurd rfl (z1 _ (zC (Dv hq)))
theorem u0e{a:Aut}{Q:List (List Int)}(hn:Q.Nodup){n t:Nat}{l:List Int}{g:List Mv}{c:Prd}(h:Q[t]? =some (Qu a l (Qi c))):stepG a Q n l g c=U9 n g t c:=by unfold stepG;rw[z04 hn h]
theorem g0g{T n to:Nat}{g:List Mv}{c:Prd}(hg:∀m∈g,PWf T m.on)(hc:PWf T c):∀m∈U9 n g to c,PWf T m.on:=by
 intro m hm;unfold U9 at hm;split at hm
 ·rcases zN.1 hm with hm|hm
  ·exact hg m hm
  ·rw[zK.1 hm];exact hc
 ·split at hm
  ·rename_i m2 z1;rcases vz hm with hm|rfl
   ·exact hg m hm
   ·exact Da (hg _ (zC z1)) hc
  ·exact hg m hm
theorem c03{a:Aut}{T:Nat}{Q:List (List Int)}{n:Nat}{l:List Int}{cl:List Prd}(z1:∀c∈cl,PWf T c):∀k,∀m∈Em a cl Q n l k,PWf T m.on:=by
 have:∀(cl:List Prd) (g:List Mv),(∀c∈cl,PWf T c)→(∀m∈g,PWf T m.on)→∀m∈cl.foldl (stepG a Q n l) g,PWf T m.on:=by
  intro cl;induction cl with
  |nil=>intro g _ hg;exact hg
  |cons c cl ih=>
   intro g hc hg;refine ih _ (fun x hx=>hc x (by simp[hx])) fun m hm=> ?_;unfold stepG at hm;split at hm
   ·exact g0g hg (hc c (by simp)) m hm
   ·exact hg m hm
 exact fun k=>this _ _ (fun c hc=>z1 c (yZ hc)) (fun m hm=>by simp at hm)
def AObj.isLp:AObj→Bool
 | .lp .. =>true
 |_=>false
theorem z15{T:Nat}{c:Prd}(hw:PWf T c)(hz:∀s∈c,s.length≤256){i:Nat}(hi:i<T):(Q3 [c] i).length≤1000000:=by
 have h:i<c.length:=by rw[hw.1];exact hi
 have:Q3 [c] i=c[i]:=by simp[Q3,yP,h]
 rw[this];have:=hz _ (zH h);omega
theorem y1e{T:Nat}{p c:Prd}(hp:PWf T p)(hw:PWf T c)(h1:∀s∈p,s.length≤65536)(hz:∀s∈c,s.length≤256){i:Nat}(hi:i<T):(Q3 [p,c] i).length≤1000000:=by
 have h:i<c.length:=by rw[hw.1];exact hi
 have h2:i<p.length:=by rw[hp.1];exact hi
 have:Q3 [p,c] i=p[i]++c[i]:=by simp[Q3,yP,h,h2]
 rw[this,zX];have:=hz _ (zH h);have:=h1 _ (zH h2);omega
theorem f03(a:Aut)(cl:List Prd)(Q:List (List Int)):Si a cl Q Q.length=(Ub a cl Q).mv:=rfl
theorem Bv(a:Aut)(cl:List Prd)(Q:List (List Int)):(Ub a cl Q).fin=Q.map (Iy a):=rfl
theorem q07(a:Aut)(cl:List Prd)(Q:List (List Int)):(Ub a cl Q).types=a.types:=rfl
theorem Nj(d:Aut):q00 d=if Xl d then(5,Ou)else(0,d):=rfl
theorem v04(a:Aut)(cl:List Prd)(Q:List (List Int))(hq:Q.length≤256)(hc:cl.length≤256):(Si a cl Q Q.length).length≤65536:=by
 have:∀n,(Si a cl Q n).length≤n * 256:=fun n=>by
  induction n with
  |zero=>simp[Si]
  |succ n ih=>have h:=F7 a cl Q n (Q.getD n []) hc cl.length;rw[Dp]at h;rw[Xw,zX];omega
 have:=this Q.length;omega
theorem y0n{p c:Prd}{A B:Nat}(hp:∀s∈p,s.length≤A)(hc:∀s∈c,s.length≤B):∀s∈E4 p c,s.length≤A+B:=by intro s hs;obtain⟨i,hi,rfl⟩:=List.getElem_of_mem hs;simp only[E4,List.length_zipWith]at hi;simp only[E4,List.getElem_zipWith];refine Nat.le_trans (f0o _) ?_;rw[zX];have h1:=hp _ (zH (by omega:i<p.length));have h2:=hc _ (zH (by omega:i<c.length));omega
theorem g0k{a:Aut}{Q:List (List Int)}{n:Nat}{l:List Int}{cl:List Prd}(z6:∀c∈cl,∀s∈c,s.length≤256)(z8:cl.length≤256):∀k,∀m∈Em a cl Q n l k,∀s∈m.on,s.length≤65536:=by
 have key:∀(cl:List Prd) (g:List Mv) (B:Nat),(∀c∈cl,∀s∈c,s.length≤256)→(∀m∈g,∀s∈m.on,s.length≤B)→∀m∈cl.foldl (stepG a Q n l) g,∀s∈m.on,s.length≤B+cl.length * 256:=by
  intro cl;induction cl with
  |nil=>intro g B _ hg m hm s hs;have:=hg m hm s hs;simp;omega
  |cons c cl ih=>
   intro g B hc hg m hm s hs;have h1:∀m∈stepG a Q n l g c,∀s∈m.on,s.length≤B+256:=by
    intro m hm s hs;have z1:=hc c (by simp);unfold stepG U9 at hm;split at hm
    ·split at hm
     ·rcases zN.1 hm with hm|hm
      ·have:=hg m hm s hs;omega
      ·rw[zK.1 hm]at hs;have:=z1 s hs;omega
     ·split at hm
      ·rename_i m2 z7;rcases vz hm with hm|rfl
       ·have:=hg m hm s hs;omega
       ·exact y0n (hg _ (zC z7)) z1 s hs
      ·have:=hg m hm s hs;omega
    ·have:=hg m hm s hs;omega
   have:=ih (stepG a Q n l g c) (B+256) (fun x hx=>hc x (by simp[hx])) h1 m hm s hs;rw[yK];omega
 intro k m hm s hs;have:=key (cl.take k) [] 0 (fun c hc=>z6 c (yZ hc)) (fun m hm=>by simp at hm) m hm s hs;rw[xM]at this;have:min k cl.length≤256:=by omega
 omega
theorem Xq(a:Aut)(cl:List Prd)(Q:List (List Int)):Si a cl Q 0=[]:=rfl
attribute [local irreducible] Ov Qu Qi mpT E9 q00 Ub Si Em stepG Iy Xl
set_option maxHeartbeats 8000000 in
theorem I9(a:Aut):PC Tryz.prog 15 [encA a] (fun r=>r= .tup [encA (Ef a).2,.i (Ef a).1]):=by
 refine Qh tOk Tryz.func15 rfl Tryz.results15 rfl (by simp[Tryz.ntmps15]) ?_;rw[Tryz.ntmps15];simp only[Qe];simp only[encA];repeat first|(refine r_ ?_;simp)|refine q_ ?_
 have yd:=w0m [.vars (Qo a),.vars [.i 0,.nils,.nils]] a;refine Q9 rfl rfl yd rfl ?_;rintro res H' ⟨hk,⟨he,rfl⟩|⟨he,r,p,m,rfl,ht,hr,hp,hm⟩⟩
 ·have hd:Ef a=((Ov a).1,Ou):=by rw[Ef,if_pos he]
  rw[hd];have k0:=hk 0 (by simp);have k1:=hk 1 (by simp);simp at k0 k1;simp;repeat first|(refine r_ ?_;simp[Qd k1])|refine q_ ?_
  refine Qa rfl (fun _=> ?_) (fun h=>by simp at h;exact absurd h he);have k2:∀L Y,((H'++L).set 1 Y)[1]? =some Y:=fun L Y=>Qk (Qd k1 L) Y;repeat first|(refine r_ ?_;simp[Qd k1,k2])|refine q_ ?_
  exact⟨rfl,rfl,rfl⟩
 ·obtain⟨zn,cl,Q,x5,vp,xw,z8,zd,zo⟩:=u0p he;have hd:Ef a=q00 (Ub a cl Q):=by rw[Ef,x5];simp
  rw[hd];rw[x5]at ht;simp only at ht;have k0:=hk 0 (by simp);have k1:=hk 1 (by simp);simp at k0 k1;have xx:=ht.t;have vq:=ht.s;simp;repeat first|(refine r_ ?_;simp[Qd k1])|refine q_ ?_
  refine Qa rfl (fun h=>by simp[he]at h) (fun _=> ?_);have k0a:∀(L:List AObj) hh,(H'++L)[0]'hh= .vars (Qo a):=fun L hh=>by have:=Qd k0 L;rw[zF hh]at this;exact Option.some.inj this
  have ye:=fun L=>Qd (G:=L) xx;repeat first|(refine r_ ?_;simp[Qd k0,k0a,ye])|refine q_ ?_
  have xy:=Qg ht.t;have xz:=Qg ht.s;have w8:=Qg ht.n;refine Wa (sl':=[(1,.vptr 0 0),(2,.vptr 1 0),(3,.i 0),(4,.vptr H'.length 0),(6,.vptr (H'.length+1) 0),(30,.sl p 1 0 Q.length),(31,.i Q.length),(32,.i (0:Nat))]) ?_ (by simp);refine Ol (H'.length+1) 1 4 1 (xs:=[.i a.types,.nils,.nils]) (by rw[zE (by omega)];simp) rfl ?_;refine T0 fun Z1 zp=> ?_;have z1l:Z1.length=H'.length+3:=by rw[zp];simp
  have z1c:Z1[H'.length+1]? =some (.vars [.i a.types,.sl (H'.length+2) 1 0 0,.nils]):=by rw[zp,zG (by simp)];simp
  have z1f:Z1[H'.length+2]? =some (.arr 4 1 []):=by rw[zp,zB (by omega),zE (by simp)];simp
  have z1b:Z1[H'.length]? =some (.vars [.vptr r 0]):=by rw[zp,zB (by omega),xQ,zE (by omega)];simp
  have z1k:∀i,i<H'.length→Z1[i]? =H'[i]? :=fun i hi=>by rw[zp,zB (by omega),xQ,zD hi]
  clear zp;refine Ol (H'.length+1) 2 73 3 z1c rfl ?_;refine T0 fun Z2 y6=> ?_;have z2c:Z2[H'.length+1]? =some (.vars [.i a.types,.sl (H'.length+2) 1 0 0,.sl (H'.length+3) 3 0 0]):=by rw[y6,zG (by simp;omega)];simp[z1l]
  have z2v:Z2[H'.length+3]? =some (.arr 73 3 []):=by rw[y6,zB (by omega),zE (by omega)];simp[z1l]
  have z2k:∀i,i<Z1.length→i≠H'.length+1→Z2[i]? =Z1[i]? :=fun i hi wa=>by rw[y6,zB (Ne.symm wa),zD hi]
  clear y6;have hb:=(z2k _ (by omega) (by omega)).trans z1b;have x6:=(z2k _ (by omega) (by omega)).trans z1f;have hold:∀i,i<H'.length→Z2[i]? =H'[i]? :=fun i hi=>(z2k i (by omega) (by omega)).trans (z1k i hi);have x7:=(hold 0 (Qg k0)).trans k0;have x8:=(hold 1 (Qg k1)).trans k1;obtain⟨zh,z7⟩:∃zh:List (Nat×AObj),zh=[(0,.vars (Qo a)),(1,.vars [.i 0,.nils,.nils]),(H'.length,.vars [.vptr r 0]),(r,.vars [.i a.types,.list (a.fin.map .bool),.list (a.mv.map encMv),LP cl,.sl p 1 0 Q.length,.mref m]),(p,.arr 47 1 (LQ Q)),(m,mpT (Q.map E9))]:=⟨_,rfl⟩
  have x9:Fx zh Z2:=by
   rw[z7];intro x hx;simp only[zU,vA,or_false]at hx;rcases hx with rfl|rfl|rfl|rfl|rfl|rfl
   ·exact x7
   ·exact x8
   ·exact hb
   ·exact(hold r xy).trans ht.t
   ·exact(hold p xz).trans ht.s
   ·exact(hold m w8).trans ht.n
  have wb:=z8.lim;have xa:∀x∈Q,Pp x:=fun x hx=>by have he:=z8.elem x hx;have:=C5 he.1 he.2;have:=zn.fin;exact⟨z8.ne x hx,by omega,fun z hz=>by have:=he.2 z hz;omega⟩
  have we:=zn.fin;generalize H'.length+1=c at *;generalize H'.length=b at *;refine Ql (Qb (sl':=[(1,.vptr 0 0),(2,.vptr 1 0),(3,.i 0),(4,.vptr b 0),(6,.vptr c 0),(30,.sl p 1 0 Q.length),(31,.i Q.length),(32,.i (0:Nat))]) ?_ (by simp))
  refine Qn (F:=fun(u:Nat×Nat×Nat×List AObj)=>⟨[(1,.vptr 0 0),(2,.vptr 1 0),(3,.i 0),(4,.vptr b 0),(6,.vptr c 0),(30,.sl p 1 0 Q.length),(31,.i Q.length),(32,.i u.1)],u.2.2.2⟩)
   (fun u=>u.1≤Q.length∧Fx zh u.2.2.2∧u.2.2.2[c]? =some (.vars [.i a.types,.sl u.2.1 1 0 u.1,.sl u.2.2.1 3 0 (Si a cl Q u.1).length])∧u.2.2.2[u.2.1]? =some (.arr 4 1 (((Q.take u.1).map (Iy a)).map .bool))∧u.2.2.2[u.2.2.1]? =some (.arr 73 3 ((Si a cl Q u.1).map encMv))) (fun u=>Q.length - u.1) ?_ (0,_,_,Z2) ⟨by simp,x9,by rw[Xq];exact z2c,by simpa using x6,by rw[Xq];exact z2v⟩
  clear x9 z2c x6 z2v hb x7 x8 hold z2k z1k z1b z1f z1c z1l;clear Z2 Z1;rintro⟨n,f,v,G⟩ ⟨hn,hF,gc,gf,gv⟩ ih;simp only at hn hF gc gf gv ih ⊢;repeat first|(refine r_ ?_;simp)|refine q_ ?_
  refine Qa rfl (fun wg=> ?_) (fun y8=> ?_)
  ·have ze:n<Q.length:=by simpa using wg
   have hw:IntKind.i64.wrap ((n:Int)+1)=n+1:=wrap_i64 _ (by omega) (by omega);have gs:G[p]? =some (.arr 47 1 (LQ Q)):=hF (p,_) (by rw[z7];simp);repeat first|(refine r_ ?_;simp[gs,ze])|refine q_ ?_
   have xb:=zH ze;have hle:=z8.elem _ xb;have wh:Q.getD n []=Q[n]:=by simp[yP,ze]
   have xc:=Xw a cl Q n;have wi:(Q.take (n+1)).map (Iy a)=(Q.take n).map (Iy a)++[Iy a Q[n]]:=by rw[zO ze,yU];rfl
   rw[wh]at xc;have wj:=(j01 a cl Q (z8.lim) zd n ze).2;have zq:=z8.closed _ xb;have vr:=C5 hle.1 hle.2;have wk:=fun L=>Qd (G:=L) gc;have g0:∀L,(G++L)[0]? =some (.vars (Qo a)):=fun L=>Qd (hF (0,_) (by rw[z7];simp)) L;have wm:((Q.take n).map (Iy a)).length=n:=by simp;omega
   generalize Q[n]=l at *
   have wF:=hF.app [.vars [.i n]];have wc:=Qd gc [.vars [.i n]];have wf:=Qd gf [.vars [.i n]];have wv:=Qd gv [.vars [.i n]];have w7:(G++[AObj.vars [.i n]])[G.length]? =some (.vars [.i n]):=by simp
   have w0:=g0 [.vars [.i n]];refine Wa (sl':=[(1,.vptr 0 0),(2,.vptr 1 0),(3,.i 0),(4,.vptr b 0),(6,.vptr c 0),(7,.vptr G.length 0),(8,LI l),(30,.sl p 1 0 Q.length),(31,.i Q.length),(32,.i n)]) ?_ (by simp);generalize G.length=n7 at *;generalize G++[AObj.vars [.i n]]=W at *;clear g0 wk gs gc gf gv hF;clear G
   have yf:((Q.take (n+1)).map (Iy a)).map AV.bool=((Q.take n).map (Iy a)).map AV.bool++[.bool (Iy a l)]:=by rw[wi];simp
   have xd:(((Q.take n).map (Iy a)).map AV.bool).length=n:=by rw[zY];exact wm
   generalize ((Q.take n).map (Iy a)).map AV.bool=xs at *
   have zr:c≠f:=fun e=>by rw[e,wf]at wc;simp at wc
   have yg:c≠v:=fun e=>by rw[e,wv]at wc;simp at wc
   have zt:f≠v:=fun e=>by rw[e,wv]at wf;simp at wf
   have xe:c≠n7:=fun e=>by rw[e,w7]at wc;simp at wc
   have xf:f≠n7:=fun e=>by rw[e,w7]at wf;simp at wf
   have z6:∀p∈zh,p.2≠ .vars [.i a.types,.sl f 1 0 n,.sl v 3 0 (Si a cl Q n).length]:=by rw[z7];simp[Ei]
   have zu:∀p∈zh,p.2≠ .arr 4 1 xs:=by rw[z7];simp[Ei]
   have wo:=Qg wc;have wq:=Qg wf;have zv:=Qg wv;have xg:=Qg w7;have xh:=wF.set wf zu .dead;have ya:∀L,(W.set f .dead++L)[c]? =some (.vars [.i a.types,.sl f 1 0 n,.sl v 3 0 (Si a cl Q n).length]):=fun L=>Qd (Qf (Ne.symm zr) wc _) L;refine v06 (P:=Tryz.prog) tOk mixed [4,6,8] (.val 0 (.val 2 (.val 3 (.two 1 (.one 4 (.one 5 (.one 6 (.val 7 (.one 8 (.done)))))) 4 (.val 1 (.one 5 (.one 6 (.val 7 (.one 8 (.done)))))))))) (fun S'=>∃f',Fx zh S'.hp∧S'.hp[n7]? =some (.vars [.i n])∧S'.hp[c]? =some (.vars [.i a.types,.sl f' 1 0 (n+1),.sl v 3 0 (Si a cl Q n).length])∧S'.hp[f']? =some (.arr 4 1 (xs++[.bool (Iy a l)]))∧S'.hp[v]? =some (.arr 73 3 ((Si a cl Q n).map encMv))∧look S'.sl 1=some (.vptr 0 0)∧look S'.sl 2=some (.vptr 1 0)∧look S'.sl 3=some (.i 0)∧look S'.sl 4=some (.vptr b 0)∧look S'.sl 6=some (.vptr c 0)∧look S'.sl 7=some (.vptr n7 0)∧look S'.sl 8=some (LI l)∧look S'.sl 30=some (.sl p 1 0 Q.length)∧look S'.sl 31=some (.i Q.length)∧look S'.sl 32=some (.i n)) rfl (by kernel_rfl) ?_ ?_
   ·simp[wc];refine⟨?_,?_⟩;all_goals
     refine Q9 rfl rfl (Xf W l 48 (.vptr 0 0) (fun s=>a.fin.getD s.toNat false) (by omega) (fun z hz=>x1p W 0 a w0 z (hle.2 z hz).1 (hle.2 z hz).2)) rfl ?_;rintro _ H2 ⟨rfl,wu⟩;rw[wu];have wx:l.any (fun s=>a.fin.getD s.toNat false)=Iy a l:=by unfold Iy;rfl
     rw[wx];simp[wc];refine Qm tOk rfl rfl T22 rfl T4 rfl (by decide) (by decide) rfl rfl rfl ?_;simp[Qd wf,Qr wf,xd,ya,Qd wc];refine⟨by simp[Rl,Qd wf,Qr wf,xd,ya,Qd wc]<;>omega,?_⟩;refine⟨?_,?_,W.length+1,?_,?_,?_⟩
     ·exact(xh.app _).set (ya _) z6 _
     ·rw[zB xe,zD (by simpa using xg),zB xf];exact w7
     ·rw[zG (by simp;omega)]
     ·rw[zB (by omega),zE (by simp)];simp
     ·rw[zB yg,zD (by simpa using zv),zB zt];exact wv
   ·rintro⟨sl,E⟩ ⟨f',eF,e7,ec,ef,ev,s1,s2,s3,s4,s6,s7,s8,s30,s31,s32⟩;simp only at eF e7 ec ef ev s1 s2 s3 s4 s6 s7 s8 s30 s31 s32;refine Wa (sl':=[(1,.vptr 0 0),(2,.vptr 1 0),(3,.i 0),(4,.vptr b 0),(6,.vptr c 0),(7,.vptr n7 0),(8,LI l),(30,.sl p 1 0 Q.length),(31,.i Q.length),(32,.i n)]) ?_ (by simp[s1,s2,s3,s4,s6,s7,s8,s30,s31,s32]);clear s1 s2 s3 s4 s6 s7 s8 s30 s31 s32 xh ya z6 zu wo wq zv xg zr yg zt xe xf w0 w7 wv wf wc wF;have eb:E[b]? =some (.vars [.vptr r 0]):=eF (b,_) (by rw[z7];simp);repeat first|(refine r_ ?_;simp[ec,Qd eb])|refine q_ ?_
    have yh:∀g c,Qu a l (Qi c)=[]→stepG a Q n l g c=g:=fun g c hx=>f0e z8.ne hx;have yi:∀g c t,Q[t]? =some (Qu a l (Qi c))→stepG a Q n l g c=U9 n g t c:=fun g c t hx=>u0e z8.nd hx;have xi:=fun k c hc=>Vj a cl Q n l (k:=k) (c:=c) hc;have wy:=fun k=>F7 a cl Q n l zd k;have xj:Em a cl Q n l 0=[]:=Mt a cl Q n l;have wz:=Dp a cl Q n l;have v7:∀k,∀m∈Em a cl Q n l k,PWf a.types.toNat m.on:=c03 (fun c hc=>(zo c hc).2.2.2.1);have v8:∀k,∀m∈Em a cl Q n l k,∀s∈m.on,s.length≤65536:=g0k (fun c hc=>(zo c hc).2.2.2.2) zd;have xk:=fun f v G=>ih (n+1,f,v,G);simp only[xc,←wz,yf]at xk;clear ih;generalize Si a cl Q n=pre at *;refine Q9 rfl rfl (Pq _ r l) rfl ?_
    rintro _ _ ⟨rfl,rfl⟩;simp;repeat first|(refine r_ ?_;simp)|refine q_ ?_
    obtain⟨zg,z6⟩:∃zg:List (Nat×AObj),zg=zh++[(n7,.vars [.i n]),(E.length,.vars [.i pre.length]),(E.length+1,.vars [.vptr r 0]),(E.length+2,.vars [LI l]),(f',.arr 4 1 (xs++[.bool (Iy a l)]))]:=⟨_,rfl⟩
    refine Es rfl (Rf:=fun _ H'=>∃v,Fx zg H'∧H'[c]? =some (.vars [.i a.types,.sl f' 1 0 (n+1),.sl v 3 0 (pre++Em a cl Q n l cl.length).length])∧H'[v]? =some (.arr 73 3 ((pre++Em a cl Q n l cl.length).map encMv))∧∃sl' ps' a' b',H'[E.length+3]? =some (.lp true none 100 sl' ps' a' b')) ?_ ?_
    ·simp;refine Hb fun H1 zw=> ?_;have vb:Fx zg H1:=by
      rw[z6,zw];intro x hx;rcases zN.1 hx with hx|hx
      ·exact(eF.app _) x hx
      ·simp only[zU,vA,or_false]at hx;rcases hx with rfl|rfl|rfl|rfl|rfl
       ·exact Qd e7 _
       ·rw[zE (by simp)];simp
       ·rw[zE (by simp)];simp
       ·rw[zE (by simp)];simp
       ·exact Qd ef _
     have fc:H1[c]? =some (.vars [.i a.types,.sl f' 1 0 (n+1),.sl v 3 0 pre.length]):=by rw[zw];exact Qd ec _
     have fv:H1[v]? =some (.arr 73 3 (pre.map encMv)):=by rw[zw];exact Qd ev _
     have fq:=congrArg (fun h:List AObj=>h[E.length+3]?) zw;simp at fq;clear zw;refine FC.mono (Na a zn cl l (fun c hc=>⟨(zo c hc).1,(zo c hc).2.1,(zo c hc).2.2.1⟩) zd (E.length+3) (E.length+1) (E.length+2) r (by rfl) (by rfl)
      (fun k H'=>∃v,Fx zg H'∧H'[c]? =some (.vars [.i a.types,.sl f' 1 0 (n+1),.sl v 3 0 (pre++Em a cl Q n l k).length])∧H'[v]? =some (.arr 73 3 ((pre++Em a cl Q n l k).map encMv))∧H'[E.length+3]? =H1[E.length+3]?)
      (fun k H' ⟨v',h1,h2,h3,h4⟩=>⟨h4.trans fq,h1 (E.length+1,_) (by rw[z6];simp),h1 (E.length+2,_) (by rw[z6];simp),[.sl p 1 0 Q.length,.mref m],h1 (r,_) (by rw[z6,z7];simp)⟩) ?_ ?_ ?_ H1 ⟨v,vb,by rw[xj,xR];exact fc,by rw[xj,xR];exact fv,rfl⟩) ?_
     ·rintro k H' L ⟨v',h1,h2,h3,h4⟩;exact⟨v',h1.app L,Qd h2 L,Qd h3 L,by rw[←h4,zD (by rw[fq]at h4;exact Qg h4)]⟩
     ·rintro k cc H' hc yj ⟨v',h1,h2,h3,h4⟩;have:=yh (Em a cl Q n l k) cc yj;rw[←xi k cc hc]at this;exact⟨v',h1,by rw[this];exact h2,by rw[this];exact h3,h4⟩
     ·rintro k cc H' hc yj ⟨v',h1,h2,h3,h4⟩;rw[xi k cc hc];have zx:=zC hc;have yk:Qu a l (Qi cc)∈Q:=(zq cc zx).resolve_left yj;have yl:=yi (Em a cl Q n l k) cc;have vc:=wy k;have zj:=v7 k;have ym:=v8 k;have zi:=zo cc zx;generalize Qu a l (Qi cc)=nx at *;generalize stepG a Q n l (Em a cl Q n l k) cc=g2 at *;generalize Em a cl Q n l k=g at *
      simp[R5];have h8:=h4.trans fq;obtain⟨LP0,zk⟩:∃LP0,H1[E.length+3]? =some LP0:=⟨_,fq⟩
      have za:LP0.isLp=true:=by rw[fq]at zk;injection zk with e;rw[←e];rfl
      have zb:H'[E.length+3]? =some LP0:=h4.trans zk;have yn:∀p∈zg,p.2≠LP0:=fun p hp e=>by rw[←e]at za;rw[z6,z7]at hp;simp only[zN,zU,vA,or_false]at hp;rcases hp with(rfl|rfl|rfl|rfl|rfl|rfl)|(rfl|rfl|rfl|rfl|rfl)<;>simp[AObj.isLp,Ei]at za
      have y1:=h1.set zb yn .dead;have yo:E.length+3≠c:=fun e=>by rw[e,h2]at zb;injection zb with e2;rw[←e2]at za;simp[AObj.isLp]at za
      have yp:E.length+3≠v':=fun e=>by rw[e,h3]at zb;injection zb with e2;rw[←e2]at za;simp[AObj.isLp]at za
      have y2:=Qf yo h2 .dead;have y3:=Qf yp h3 .dead;have y4:=Qk zb .dead;generalize H'.set (E.length+3) .dead=Y at *
      have yb:Y[b]? =some (.vars [.vptr r 0]):=y1 (b,_) (by rw[z6,z7];simp);have y0:Y[0]? =some (.vars (Qo a)):=y1 (0,_) (by rw[z6,z7];simp);have y7:Y[n7]? =some (.vars [.i n]):=y1 (n7,_) (by rw[z6];simp);have y9:Y[E.length]? =some (.vars [.i pre.length]):=y1 (E.length,_) (by rw[z6];simp);have yt:TB r p m a cl Q Y:=⟨y1 (r,_) (by rw[z6,z7];simp),y1 (p,_) (by rw[z6,z7];simp),y1 (m,_) (by rw[z6,z7];simp)⟩
      repeat first|(refine r_ ?_;simp[Qd yb])|refine q_ ?_
      refine Q9 rfl rfl (Vh _ r p m a cl Q nx (yt.keep fun j hj=> ?_) (xa nx yk) xa (by omega)) rfl ?_
      ·have:j<Y.length:=by
        rcases hj with rfl|rfl|rfl
        ·exact Qg yt.t
        ·exact Qg yt.s
        ·exact Qg yt.n
       exact zD this
      rintro res Z ⟨t,p2,rfl,xl,-,-,-,hZ,-⟩;rw[hZ yk];have yq:z0l Q nx=Q:=by rw[z0l,if_pos yk]
      rw[yq]at xl;rw[yl t xl];clear hZ;simp;repeat first|(refine r_ ?_;simp[Qd y2,Qd y9])|refine q_ ?_
      have xm:∀M,(Y++M)[v']? =some (.arr 73 3 ((pre++g).map encMv)):=fun M=>Qd y3 M;refine Q9 rfl rfl (v0l (Y++[AObj.vars [.list (cc.map encL)],.vars [.i t]]) v' pre.length t (Y.length+1) pre g (by rw[zE (by omega)];simp) (xm _) (by omega) rfl) rfl ?_;rintro _ _ ⟨rfl,L,rfl⟩;simp;repeat first|(refine r_ ?_;simp)|refine q_ ?_
      have w1:=y1.app ([AObj.vars [.list (cc.map encL)],.vars [.i t]]++L);have w2:=Qd y2 ([AObj.vars [.list (cc.map encL)],.vars [.i t]]++L);have w3:=xm ([AObj.vars [.list (cc.map encL)],.vars [.i t]]++L);have w4:=Qd y4 ([AObj.vars [.list (cc.map encL)],.vars [.i t]]++L);have w5:(Y++([AObj.vars [.list (cc.map encL)],.vars [.i t]]++L))[Y.length]? =some (.vars [.list (cc.map encL)]):=by rw[zE (by omega)];simp
      have w6:(Y++([AObj.vars [.list (cc.map encL)],.vars [.i t]]++L))[Y.length+1]? =some (.vars [.i t]):=by rw[zE (by omega)];simp
      have w7:=Qd y7 ([AObj.vars [.list (cc.map encL)],.vars [.i t]]++L);have w0:=Qd y0 ([AObj.vars [.list (cc.map encL)],.vars [.i t]]++L);have w9:=Qd y9 ([AObj.vars [.list (cc.map encL)],.vars [.i t]]++L);have xn:((a.types.toNat:Nat):Int)=a.types:=by have:=zn.types;omega
      simp only[List.cons_append,List.nil_append]at w0 w1 w2 w3 w4 w5 w6 w7 w9;generalize Y++AObj.vars [.list (cc.map encL)]::AObj.vars [.i t]::L=W at *;generalize Y.length+1=i12 at *;generalize Y.length=i10 at *
      have xo:∀p∈zg,p.2≠ .dead:=by rw[z6,z7];simp[Ei]
      have yr:∀p∈zg,p.2≠ .vars [.i a.types,.sl f' 1 0 (n+1),.sl v' 3 0 (pre.length+g.length)]:=by rw[z6,z7];simp[Ei]
      have zy:∀p∈zg,p.2≠ .arr 73 3 ((pre++g).map encMv):=by rw[z6,z7];simp[Ei]
      rw[zX]at w2;have xp:v'≠c:=fun e=>by rw[e,w2]at w3;simp at w3
      have yu:v'≠E.length+3:=fun e=>by rw[e,w4]at w3;simp at w3
      have yv:c≠E.length+3:=fun e=>by rw[e,w4]at w2;simp at w2
      have lc:=Qg w2;have lv:=Qg w3;have lq:=Qg w4;refine Wa (sl':=[(1,.vptr 0 0),(6,.vptr c 0),(7,.vptr n7 0),(9,.vptr E.length 0),(10,.vptr i10 0),(12,.vptr i12 0),(13,.i (u0m g t)),(63,.bool (decide (u0m g t<0)))]) ?_ (by simp);cases hfi:g.findIdx? fun m:Mv=>decide (m.dst=(t:Int))with
      |none=>
       have yw:u0m g t= -1:=by rw[u0m,hfi]
       have zl:U9 n g t cc=g++[⟨n,t,cc⟩]:=by rw[U9,hfi]
       rw[yw,zl];refine Q7 rfl ?_;simp;repeat first|(refine r_ ?_;simp)|refine q_ ?_
       refine Qw tOk mixed [11,13] (.val 0 (.val 1 (.val 2 (.val 3 (.val 4 (.val 5 (.val 6 (.one 7 (.one 8 (.val 9 (.one 10 (.one 11 (.val 12 (.one 13 (.done))))))))))))))) rfl (by kernel_rfl) ?_;simp[w0,w2,w5,w6,w7];refine Wb W.length (e:=70) (c:=1) (xs:=[encP cc]) (by simp) ?_;simp;have xq:=Bg a.types.toNat [cc] (by have:=zn.types;omega) (fun p hp=>by rw[zK.1 hp];exact zi.2.2.2.1) (fun j hj=>z15 zi.2.2.2.1 zi.2.2.2.2 hj) (by simp);rw[xn,x14 zi.2.2.2.1]at xq;refine Qc rfl rfl (by simp) (xq) rfl ?_;rintro _ rfl;simp;have w2b:∀M,(W++M)[c]? =some (.vars [.i a.types,.sl f' 1 0 (n+1),.sl v' 3 0 (pre.length+g.length)]):=fun M=>Qd w2 M;have w2c:∀M,(W.set v' .dead++M)[c]? =some (.vars [.i a.types,.sl f' 1 0 (n+1),.sl v' 3 0 (pre.length+g.length)]):=fun M=>Qd (Qf xp w2 _) M;have zv:((pre++g).map encMv).length=pre.length+g.length:=by simp
       have vd:=(w1.set w3 zy .dead)
       generalize yx:(pre++g).map encMv=mm at *;refine Qm tOk rfl rfl T23 rfl T73 rfl (by decide) (by decide) rfl rfl rfl ?_
       simp[Qd w3,Qr w3,w2b,w2c,zv];refine⟨by simp[Rl,Qd w3,Qr w3,w2b,w2c,zv]<;>omega,?_⟩;repeat first|(refine r_ ?_;simp)|refine q_ ?_
       have zm:((W.set v' AObj.dead++[AObj.dead,AObj.arr 73 3 [.agg [.i n,.i t,.list (cc.map encL)]],AObj.arr 73 3 (mm++[.agg [.i n,.i t,.list (cc.map encL)]])]).set c (AObj.vars [.i a.types,.sl f' 1 0 (n+1),.sl (W.length+2) 3 0 (pre.length+g.length+1)]))[E.length+3]? =some .dead:=by rw[zB yv,zD (by simpa using lq),zB yu];exact w4
       refine⟨zm,rfl,((vd.app _).set (w2c _) yr _).set zm xo _,W.length+2,?_,?_,?_⟩
       ·rw[zB (Ne.symm yv),zG (by simp;omega)];simp[Nat.add_assoc]
       ·rw[zB (by omega),zB (by omega),zE (by simp)];rw[←yx];simp
       ·rw[fq,zG (Qg zm)]
      |some i=>
       have yw:u0m g t=i:=by rw[u0m,hfi]
       obtain⟨xr,hid,-⟩:=List.findIdx?_eq_some_iff_getElem.1 hfi;have xt:g[i]? =some g[i]:=zF xr;have zl:U9 n g t cc=g.set i { g[i]with on:=E4 g[i].on cc }:=by rw[U9,hfi];simp[xt]
       rw[yw,zl];refine Qa rfl (fun h=>by simp at h;omega) (fun _=> ?_);have ve:IntKind.i64.wrap ((pre.length:Int)+i)=pre.length+i:=wrap_i64 _ (by omega) (by omega);have yy:(pre.length:Int)+i<pre.length+g.length:=by omega
       have vf:(0:Int)≤(pre.length:Int)+i:=by omega
       have vg:((pre.length:Int)+i).toNat=pre.length+i:=by omega
       repeat first|(refine r_ ?_;simp[w2,w9,ve,yy,vf,vg])|refine q_ ?_
       have y8:((pre++g).map encMv)[pre.length+i]? =some (.agg [.i g[i].src,.i g[i].dst,.list (g[i].on.map encL)]):=by rw[yU,zE (by simp)];simp[xt]
       have yz:((pre++g).map encMv).length=pre.length+g.length:=by simp
       generalize yx:(pre++g).map encMv=mm at *
       have x0:yD 2=[0,1]:=rfl;refine Qw tOk mixed [12] (.val 0 (.val 1 (.val 2 (.val 3 (.val 4 (.val 5 (.val 6 (.val 7 (.one 8 (.one 9 (.val 10 (.val 11 (.one 12 (.done)))))))))))))) rfl (by kernel_rfl) ?_;simp[w0,w3,w5,y8,yz,x0];refine Wb W.length (e:=70) (c:=1) (xs:=[encP g[i].on,encP cc]) (by simp) ?_;simp;have yc:=zH xr;have xu:=Bg a.types.toNat [g[i].on,cc] (by have:=zn.types;omega) (fun p hp=>by
        simp only[zU,vA,or_false]at hp;rcases hp with rfl|rfl
        ·exact zj _ yc
        ·exact zi.2.2.2.1) (fun j hj=>y1e (zj _ yc) zi.2.2.2.1 (ym _ yc) zi.2.2.2.2 hj) (by simp)
       rw[xn,w1k (zj _ yc) zi.2.2.2.1]at xu;have w3b:∀M,(W++M)[v']? =some (.arr 73 3 mm):=fun M=>Qd w3 M;refine Qc rfl rfl (by simp) (xu) rfl ?_;rintro _ rfl;simp[w3b,y8,Qr w3];repeat first|(refine r_ ?_;simp)|refine q_ ?_
       have zm:(W.set v' (AObj.arr 73 3 (mm.set (pre.length+i) (.agg [.i g[i].src,.i g[i].dst,.list ((E4 g[i].on cc).map encL)])))++[AObj.dead])[E.length+3]? =some .dead:=by rw[zD (by simpa using lq),zB yu];exact w4
       refine⟨zm,rfl,(((w1.set w3 zy _).app _).set zm xo _),v',?_,?_,?_⟩
       ·rw[zB (Ne.symm yv),zD (by simpa using lc),zB xp];rw[w2]
       ·rw[zB (Ne.symm yu),zD (by simpa using lv),zG lv];rw[←yx,yU,List.set_append_right _ _ (by simp)];simp[List.map_set]
       ·rw[fq,zG (Qg zm)]
     ·rintro _ H' ⟨v',h1,h2,h3,h4⟩;exact⟨h1,v',by simpa using h2,by simpa using h3,_,_,_,_,h4.trans fq⟩
    ·rintro res H' ⟨v',h1,h2,h3,⟨sl',ps',a',b',h6⟩⟩;refine⟨true,none,100,sl',ps',a',b',by simpa using h6,?_⟩;simp;have yo:E.length+3≠c:=fun e=>by rw[e,h2]at h6;simp at h6
     have yp:E.length+3≠v':=fun e=>by rw[e,h3]at h6;simp at h6
     have y1:=h1.set h6 (by rw[z6,z7];simp[Ei]) .dead;have y2:=Qf yo h2 .dead;have y3:=Qf yp h3 .dead;generalize H'.set (E.length+3) .dead=Y at *
     repeat first|(refine r_ ?_;simp[hw])|refine q_ ?_
     refine Qb (sl':=[(1,.vptr 0 0),(2,.vptr 1 0),(3,.i 0),(4,.vptr b 0),(6,.vptr c 0),(30,.sl p 1 0 Q.length),(31,.i Q.length),(32,.i (n+1:Nat))]) ?_ (by simp);refine xk f' v' Y ⟨by omega,fun x hx=>y1 x (by rw[z6];exact yT _ hx),y2,y1 (f',_) (by rw[z6];simp),y3⟩ (by omega)
  ·have x2:n=Q.length:=by simp at y8;omega
   subst x2;have zz:Si a cl Q Q.length=(Ub a cl Q).mv:=f03 a cl Q;have x3:(Q.take Q.length).map (Iy a)=(Ub a cl Q).fin:=by rw[yF];exact(Bv a cl Q).symm
   have vh:(Ub a cl Q).fin.length=Q.length:=by rw[Bv];simp
   have vi:(Ub a cl Q).mv.length≤65536:=by rw[←zz];exact v04 a cl Q wb zd
   rw[zz]at gc gv;rw[x3]at gf;rw[←vh]at gc;have vj:(Ub a cl Q).types=a.types:=q07 a cl Q;have yy:q00 (Ub a cl Q)=if Xl (Ub a cl Q)then(5,Ou)else(0,Ub a cl Q):=Nj _
   rw[yy];generalize Ub a cl Q=d at *
   have g1:G[1]? =some (.vars [.i 0,.nils,.nils]):=hF (1,_) (by rw[z7];simp);have yg:v≠c:=fun e=>by rw[e,gc]at gv;simp at gv
   have zt:f≠v:=fun e=>by rw[e,gv]at gf;simp at gf
   have yd:f≠c:=fun e=>by rw[e,gc]at gf;simp at gf
   have vk:f≠1:=fun e=>by rw[e,g1]at gf;simp at gf
   have vl:v≠1:=fun e=>by rw[e,g1]at gv;simp at gv
   have vm:c≠1:=fun e=>by rw[e,g1]at gc;simp at gc
   refine Wa (sl':=[(2,.vptr 1 0),(3,.i 0),(6,.vptr c 0)]) ?_ (by simp);refine Ea v gv c gc ?_;simp[zt];rw[zS (by simp)];have x4:=Qg gc;have vn:=Qg gf;refine T0 fun Z hZ=> ?_;have zc:Z[c]? =some (.vars [.i d.types,.sl f 1 0 d.fin.length,.list (d.mv.map encMv)]):=by rw[hZ,vj];exact zG (by simpa using x4)
   have zf:Z[f]? =some (.arr 4 1 (d.fin.map .bool)):=by rw[hZ,zB (Ne.symm yd),zB (Ne.symm zt)];exact gf
   have z1:Z[1]? =some (.vars [.i 0,.nils,.nils]):=by rw[hZ,zB vm,zB vl];exact g1
   clear hZ;repeat first|(refine r_ ?_;simp[zc])|refine q_ ?_
   refine Q9 rfl rfl (Vk Z f d zf (by omega) (by omega)) rfl ?_;rintro res Y ⟨hr,xv⟩;have y5:=(xv 1 (Qg z1)).trans z1;have vo:=(xv f (Qg zf)).trans zf;have x0:∀X,(Y.set 1 X)[1]? =some X:=fun X=>Qk y5 X;rcases hr with⟨hb,rfl⟩|⟨hb,rfl⟩
   ·rw[hb];simp[y5];repeat first|(refine r_ ?_;simp[x0])|refine q_ ?_
    exact⟨rfl,rfl,rfl⟩
   ·rw[hb];simp[y5];refine Wa (sl':=[(2,.vptr 1 0),(3,.i 0)]) ?_ (by simp);refine Ea f (Qf (Ne.symm vk) vo _) 1 (Qk y5 _) ?_;simp;rw[zS (by simp)];refine T0 fun X hX=> ?_;have x1:X[1]? =some (.vars [.i d.types,.list (d.fin.map .bool),.list (d.mv.map encMv)]):=by rw[hX];exact zG (by have:=Qg y5;simpa using this)
    repeat first|(refine r_ ?_;simp[x1])|refine q_ ?_
end Go.Abs
namespace Go.Abs
open Go Go.Proofs Go.Maps Go.RowKit
def d1f(l:List Bool)(i:Nat):List Bool:=l.mapIdx fun k b=>if k<i then !b else b
attribute [local irreducible] Ef z0o d1f
end Go.Abs
namespace Go.Abs
open Go Go.Proofs Go.Maps Go.RowKit
attribute [local irreducible] We
attribute [local irreducible] z0o Z9 q0c Sk c1l f1h Wg
end Go.Abs
namespace Go.Abs
open Go Go.Proofs Go.Maps Go.RowKit
section
variable {P:Program} [Env P] {T:TT} {nt k:Nat} {S:AS}
theorem y0o (hT:TOk P T) (hm:P.follows .mixedOrders=true) {Q:Exit→AS→Prop} {id:Nat} {l:List Oper} (Wr:List Nat) (p:PlanM) (Ph:AS→Prop) (hd:Yp nt l=true)
  (hp:(Region.noSelect l.toArray && p.size==l.length && Yi l.toArray (Uh l []) Wr p (Array.replicate l.length false))=true)
  (h:Y9 P T nt k l.toArray Wr.contains Ph p S) (hn:∀S',Ph S'→Q .normal S'):AWP P nt k (.region id l.toArray true) Q S:=
 (Fy (Q:=fun e S=>e= .normal∧Ph S) hT hm Wr p hd hp (W4 (fun _ h=>⟨rfl,h⟩) p S h)).mono fun e S ⟨he,hr⟩=>by subst he;exact hn S hr
end
attribute [local irreducible] Rm upL
end Go.Abs
namespace Go.Abs
open Go Go.Proofs Go.Maps Go.RowKit
def f1u(p:Prd)(L:List Prd)(k:Nat):List Prd:=Tn p (L.take k)
def d1o(T:Nat)(l:List Prd)(i:Nat):List Prd:=Y3 T (l.take i)
def g1o(L:List Prd)(i:Nat):List Prd:=(L.take i).foldl y0a []
attribute [local irreducible] f1u d1o g1o Wg Ez Ry W2 j0y Y3 Tn Qz
end Go.Abs
namespace Go.Abs
open Go Go.Proofs Go.Maps Go.RowKit
def c1z(p:Prd):Bool:=p.any fun s=>decide (256<s.length)
def c19(p:Prd):Int×Prd:=if c1z p then(5,[])else(0,p)
attribute [local irreducible] Q4 Ew c1z
attribute [local irreducible] Ya c19
end Go.Abs
namespace Go.Abs
open Go Go.Proofs Go.Maps Go.RowKit
attribute [local irreducible] Qu Qi w0q q12 Rp Ri f09 nxB j10 x0z We
end Go.Abs
namespace Go.Abs
open Go Go.Proofs Go.Maps Go.RowKit
attribute [local irreducible] Ov Qu Qi q00 Ub Si Em stepG Iy Xl x0z f09 nxB j10 f1h We
end Go.Abs
namespace Go.Abs
open Go Go.Proofs Go.Maps Go.RowKit
attribute [local irreducible] Ef c1e z0o
end Go.Abs
namespace Go.Abs
open Go Go.Proofs Go.Maps Go.RowKit
attribute [local irreducible] Z9 Lp We
attribute [local irreducible] Rj
def toD(a:Aut)(s:Int)(x:Sy)(j:Nat):Int:=match (a.mv.drop j).find? (fun m=>decide (m.src=s) && Rj m.on x)with|some m=>m.dst|none=> -1
attribute [local irreducible] toD toL
end Go.Abs
namespace Go.Abs
open Go Go.Proofs Go.Maps Go.RowKit
attribute [local irreducible] Qi Q4
end Go.Abs
namespace Go.Abs
open Go Go.Proofs Go.Maps Go.RowKit
attribute [simp] q2r q2g
abbrev PQ:=(Int×Int)×List Sy
def w2x(e:PQ):AV:= .agg [.i e.1.1,.i e.1.2,.list (e.2.map encSy)]
def f1y(L:List PQ)(s:Int×Int):Bool:=decide (s∈L.map (·.1))
structure PInv (a b:Aut) (L:List PQ):Prop where
 nd:(L.map (·.1)).Nodup
 rng:∀e∈L,inS a e.1.1∧inS b e.1.2
 wl:∀(i:Nat) (e:PQ),L[i]? =some e→e.2.length≤i
theorem v0s{good:Int×Int→Bool}{succ:Int×Int→List (Sy×(Int×Int))}{f n:Nat}{L:List PQ}(h:L[n]? =none):Gu good succ f n L=(none,L):=by
 cases f with
 |zero=>rw[Gu]
 |succ f=>rw[Gu,h]
theorem z0s{good:Int×Int→Bool}{succ:Int×Int→List (Sy×(Int×Int))}{f n:Nat}{L:List PQ}{s:Int×Int}{w:List Sy}(h:L[n]? =some (s,w)):Gu good succ (f+1) n L=if good s=true then(some w,L)else Gu good succ f (n+1) (Ed L w (succ s)):=by rw[Gu,h]
theorem q0e(L:List PQ)(w:List Sy):Ed L w ([]:List (Sy×(Int×Int)))=L:=rfl
def q2d(r:Option (List Sy)):AV:= .tup [LSy (r.getD []),.bool r.isSome]
attribute [local irreducible] Rt toL Gu Ed Xh f1y K8 Sa
end Go.Abs
namespace Go.Abs
open Go Go.Proofs Go.Maps Go.RowKit
instance inS_dec (a:Aut) (s:Int):Decidable (inS a s):=by unfold inS;exact inferInstance
def w2w(a:Aut)(p q:Int):Option (List Sy)×Int:=if Ux a≠0 then(none,Ux a)else if inS a p∧inS a q then((Sa a a p q).1,0)else(none,6)
def q2e(r:Option (List Sy)×Int):AV:= .tup [LSy (r.1.getD []),.bool r.1.isSome,.i r.2]
attribute [local irreducible] Ux Sa
abbrev q2a (l:List Nat):List Int:=l.map fun x:Nat=>(x:Int)
attribute [local irreducible] eqS q2t
def w2t(a:Aut):List Int×Int:=if Ux a≠0 then([],Ux a)else(q2a (clA a),0)
end Go.Abs
namespace Go.Abs
theorem Lv{a b:Aut}(ha:Dfa a)(hb:OkA b)(ht:b.types=a.types){w:List Sy}(hw:∀z∈w,Wj a z)(h1:En b w=true)(h2:En a w=false):∃v:List Sy,v.length+1≤b.fin.length * (a.fin.length+1)∧(∀z∈v,Wj a z)∧En b v=true∧En a v=false:=by
 have hz:inS b 0:=⟨yI _,by have:=hb.fin;omega⟩
 have z1:∀v,En b v=true↔u05 b 0 v:=fun v=>by unfold En;rw[Fw];simp
 have hst:∀l∈(Wo a.fin.length).map (fun i=>[i]),∀x,Wj a x→Qu a l x=[]∨Qu a l x∈(Wo a.fin.length).map (fun i=>[i]):=fun l hl x hx=>by obtain⟨i,hi,rfl⟩:=zL.1 hl;obtain⟨h3,h4⟩:=ha.next (Wq.1 hi) hx;rw[h4];exact .inr (zL.2 ⟨_,Wq.2 h3,rfl⟩)
 obtain⟨k,_,hk⟩:=q1z (a:=a) (b:=b) (s:=(0,[0])) w.length ⟨w,rfl,hw,(z1 w).1 h1,h2⟩;have z6:=Me hst (b:=b) (s:=(0,[0])) ⟨hz,.inr (zL.2 ⟨0,Wq.2 ha.zero,rfl⟩)⟩ hk;obtain⟨⟨v,hv,z7,v1,v2⟩,_⟩:=hk;have hl:((Wo a.fin.length).map fun i=>[i]).length=a.fin.length:=by simp[Wo]
 rw[hl]at z6;exact⟨v,by rw[hv];exact z6,z7,(z1 v).2 v1,v2⟩
theorem z19{a b:Aut}(ha:Dfa a)(hb:Dfa b)(ht:b.types=a.types)(z1:a.fin.length≤8)(z6:b.fin.length≤8){w:List Sy}(h:FirstP (Wj a) (wnd neB a b) w):w.length≤4096:=by
 have hh:=h.hit;unfold wnd neB at hh;cases h1:En a w with
 |true=>
  cases h2:En b w with
  |true=>rw[h1,h2]at hh;cases hh
  |false=>obtain⟨v,v1,v2,v3,v4⟩:=Lv hb ha.ok ht.symm (fun z hz=>(Wx ht).2 (h.okw z hz)) h1 h2;have:=Y1 (h.least v (fun z hz=>(Wx ht).1 (v2 z hz)) (by unfold wnd neB;rw[v3,v4];rfl));have:=vB z1 (show b.fin.length+1≤9 by omega);omega
 |false=>
  cases h2:En b w with
  |false=>rw[h1,h2]at hh;cases hh
  |true=>obtain⟨v,v1,v2,v3,v4⟩:=Lv ha hb.ok ht h.okw h2 h1;have:=Y1 (h.least v v2 (by unfold wnd neB;rw[v3,v4];rfl));have:=vB z6 (show a.fin.length+1≤9 by omega);omega
structure EqC where
 verdict:Int
 pairs:List (Int×Int)
 word:List Sy
def w12:EqC:=⟨0,[],[]⟩
def Wv(a b:Aut):Int:=if We a≠0 then We a else if We b≠0 then We b else if a.types≠b.types then 15 else 0
def R0(a b:Aut):Int:=if Wv a b≠0 then Wv a b else if Ux a≠0∨Ux b≠0 then 3 else 0
def B8(a b:Aut):EqC×Int:=if R0 a b≠0 then(w12,R0 a b)else match (Dy a b neB).1 with
 |some w=>(⟨2,[],w⟩,0)
 |none=>if 2048<(Tq a b).length then(w12,5)else(⟨1,R6 (Tq a b),[]⟩,0)
def inQ(a b:Aut)(s:Int×Int):Bool:=decide (inS a s.1∧inS b s.2)
instance (a:Aut) (s:Int):Decidable (inS a s):=inferInstanceAs (Decidable (0≤s∧s<(a.fin.length:Int)))
def Oi(a b:Aut)(x:EqC):Int:=if x.verdict≠1∧x.verdict≠2 then 1 else if(x.verdict=1∧0<x.word.length)∨(x.verdict=2∧0<x.pairs.length)then 3
 else if 2048<x.pairs.length∨4096<x.word.length then 5 else if x.pairs.all (fun s=>decide (inS a s.1∧inS b s.2))=false then 6 else Cf a.types x.word
def Bi(a b:Aut)(x:EqC):Int:=if R0 a b≠0 then R0 a b else if Oi a b x≠0 then Oi a b x else if(if x.verdict=1 then Gm a b x.pairs else En a x.word != En b x.word)=true then 0 else 18
def W6(a b:Aut):Int:=if Wv a b≠0 then Wv a b else if(Ef a).1≠0 then(Ef a).1 else(Ef b).1
def X3(a b:Aut):(List Sy×Bool)×Int:=if W6 a b≠0 then(([],false),W6 a b)else match (Dy (Ef a).2 (Ef b).2 Cg).1 with
 |some w=>((w,false),0)
 |none=>(([],true),0)
def Vi(a b:Aut):(List Sy×Bool)×Int:=if W6 a b≠0 then(([],false),W6 a b)else match (Dy (Ef a).2 (Ef b).2 neB).1 with
 |some w=>((w,true),0)
 |none=>(([],false),0)
theorem Ep{a b:Aut}:Wv a b=0↔OkA a∧OkA b∧b.types=a.types:=by
 unfold Wv;by_cases h1:We a≠0
 ·rw[if_pos h1];exact⟨fun h=>absurd h h1,fun h=>absurd ((I3 a).2 h.1) h1⟩
 rw[if_neg h1];by_cases h2:We b≠0
 ·rw[if_pos h2];exact⟨fun h=>absurd h h2,fun h=>absurd ((I3 b).2 h.2.1) h2⟩
 rw[if_neg h2];by_cases h3:a.types≠b.types
 ·rw[if_pos h3];exact⟨fun h=>(by cases h),fun h=>absurd h.2.2.symm h3⟩
 rw[if_neg h3];exact⟨fun _=>⟨(I3 a).1 (Decidable.not_not.1 h1),(I3 b).1 (Decidable.not_not.1 h2),(Decidable.not_not.1 h3).symm⟩,fun _=>rfl⟩
theorem Up{a b:Aut}:R0 a b=0↔Dfa a∧Dfa b∧b.types=a.types:=by
 unfold R0;by_cases h1:Wv a b≠0
 ·rw[if_pos h1];exact⟨fun h=>absurd h h1,fun h=>absurd (Ep.2 ⟨h.1.ok,h.2.1.ok,h.2.2⟩) h1⟩
 rw[if_neg h1];have hb:=Ep.1 (Decidable.not_not.1 h1);by_cases h2:Ux a≠0∨Ux b≠0
 ·rw[if_pos h2];exact⟨fun h=>(by cases h),fun h=>h2.elim (fun k=>absurd ((Uc a).2 h.1) k) (fun k=>absurd ((Uc b).2 h.2.1) k)⟩
 rw[if_neg h2];exact⟨fun _=>⟨(Uc a).1 (Decidable.not_not.1 fun k=>h2 (.inl k)),(Uc b).1 (Decidable.not_not.1 fun k=>h2 (.inr k)),hb.2.2⟩,fun _=>rfl⟩
theorem g0f{a b:Aut}(ha:Dta a)(hb:Dta b)(ht:b.types=a.types){wn:Bool→Bool→Bool}{w:List Sy}(h:(Dy a b wn).1=some w):FirstP (Wj a) (wnd wn a b) w:=by
 rcases Tr ha hb ht wn with⟨v,L,h1,h2⟩|⟨L,h1,_⟩
 ·rw[h1]at h;obtain rfl:=Option.some.inj h;exact h2
 ·rw[h1]at h;cases h
theorem g0n{a b:Aut}(ha:Dfa a)(hb:Dfa b)(ht:b.types=a.types)(hn:(Dy a b neB).1=none):(Tq a b).length≤a.fin.length * b.fin.length∧∀s∈Tq a b,inS a s.1∧inS b s.2:=by
 obtain⟨h1,_,h3⟩:=S7 ⟨ha.ok,ha.det⟩ ⟨hb.ok,hb.det⟩ ht hn;have z1:∀s∈Tq a b,inS a s.1∧inS b s.2:=fun s hs=>by
  obtain⟨v,hv,e⟩:=(h3 s).1 hs;rw[Yx]at e;rw[←e];have st:∀ {c:Aut},Dfa c→∀(w:List Sy) (s:Int),inS c s→(∀x∈w,Wj c x)→inS c (stF c s w):=fun {c} hc w=>by
   induction w with
   |nil=>intro s hs _;exact hs
   |cons x w ih=>intro s hs hw;exact ih _ (hc.next hs (hw x (by simp))).1 fun y hy=>hw y (by simp[hy])
  exact⟨st ha v 0 ha.zero hv,st hb v 0 hb.zero fun x hx=>(Wx ht).2 (hv x hx)⟩
 refine⟨?_,z1⟩;rw[←Lr];exact Pj _ _ h1 fun s hs=>Zb (z1 s hs).1 (z1 s hs).2
theorem x0e{a b:Aut}(hf:R0 a b=0)(z1:a.fin.length≤8)(z6:b.fin.length≤8):(B8 a b).2=0∧Bi a b (B8 a b).1=0∧(((B8 a b).1.verdict=1∧∀w,(∀x∈w,Wj a x)→En a w=En b w)∨((B8 a b).1.verdict=2∧∃w,(∀x∈w,Wj a x)∧En a w≠En b w)):=by
 obtain⟨ha,hb,ht⟩:=Up.1 hf;have da:Dta a:=⟨ha.ok,ha.det⟩
 have db:Dta b:=⟨hb.ok,hb.det⟩
 unfold B8;rw[if_neg (fun k=>k hf)];cases hs:(Dy a b neB).1 with
 |some w=>
  have hw:=g0f da db ht hs;have hl:=z19 ha hb ht z1 z6 hw;have z7:(En a w != En b w)=true:=hw.hit;refine⟨rfl,?_,.inr ⟨rfl,w,hw.okw,by simpa using z7⟩⟩;have hp:Oi a b ⟨2,[],w⟩=0:=by unfold Oi;rw[if_neg (by simp),if_neg (by simp),if_neg (by simp;omega),if_neg (by simp)];exact(Sr w).2 fun x hx=>(O3 _ _).2 (hw.okw x hx)
  unfold Bi;rw[if_neg (fun k=>k hf),if_neg (fun k=>k hp)];simp only;rw[if_neg (by decide:¬(2:Int)=1),if_pos z7]
 |none=>
  obtain⟨hl,z8⟩:=g0n ha hb ht hs;have:=vB z1 z6;simp only;rw[if_neg (by omega)];refine⟨rfl,?_,.inl ⟨rfl,q0g ha hb ht (Xy ha hb ht hs)⟩⟩;have za:(R6 (Tq a b)).length=(Tq a b).length:=(xZ _ _).length_eq;have hp:Oi a b ⟨1,R6 (Tq a b),[]⟩=0:=by
   unfold Oi;rw[if_neg (by simp),if_neg (by simp),if_neg (by simp;omega),if_neg]
   ·rfl
   ·simp only[uM];rw[zM];intro s hm;exact decide_eq_true (z8 s (R3.1 hm))
  unfold Bi;rw[if_neg (fun k=>k hf),if_neg (fun k=>k hp)];simp only;rw[if_pos trivial,if_pos (Xy ha hb ht hs)]
end Go.Abs
namespace Go.Abs
section
variable {a b:Aut}
theorem Kt(hb:Wv a b=0):W6 a b=0∨W6 a b=5:=by
 obtain⟨h1,h2,_⟩:=Ep.1 hb;unfold W6;rw[if_neg (fun k=>k hb)];by_cases h:(Ef a).1≠0
 ·rw[if_pos h];exact(j0i h1).elim (fun k=>absurd k h) .inr
 ·rw[if_neg h];exact j0i h2
theorem Yq(hb:Wv a b=0):W6 a b=0↔(Ef a).1=0∧(Ef b).1=0:=by
 unfold W6;rw[if_neg (fun k=>k hb)];by_cases h:(Ef a).1≠0
 ·rw[if_pos h];exact⟨fun k=>absurd k h,fun k=>absurd k.1 h⟩
 ·rw[if_neg h];exact⟨fun k=>⟨Decidable.not_not.1 h,k⟩,fun k=>k.2⟩
theorem D2:Wv a b=0→Wv b a=0:=fun h=>by obtain⟨h1,h2,h3⟩:=Ep.1 h;exact Ep.2 ⟨h2,h1,h3.symm⟩
theorem k0q(hb:Wv a b=0):W6 b a=W6 a b:=by
 have h1:=Yq hb;have h2:=Yq (D2 hb);rcases Kt hb with h|h<;>rcases Kt (D2 hb)with k|k
 ·rw[h,k]
 ·have:=h2.2 ⟨(h1.1 h).2,(h1.1 h).1⟩;omega
 ·have:=h1.2 ⟨(h2.1 k).2,(h2.1 k).1⟩;omega
 ·rw[h,k]
theorem Wz{a:Aut}(h:(Ef a).1=0):Ef a=(0,(Ef a).2):=tl h rfl
theorem Xo(hb:Wv a b=0)(ho:W6 a b=0)(wn:Bool→Bool→Bool):
  (∃w,(Dy (Ef a).2 (Ef b).2 wn).1=some w∧FirstP (Wj a) (wnd wn a b) w)∨((Dy (Ef a).2 (Ef b).2 wn).1=none∧∀v,(∀z∈v,Wj a z)→wnd wn a b v=false):=by
 obtain⟨h1,h2,h3⟩:=Ep.1 hb;obtain⟨d1,d2⟩:=(Yq hb).1 ho;have e:=G6 h1 h2 h3 (Wz d1) (Wz d2) wn;rcases Zp h1 h2 h3 (Wz d1) (Wz d2) wn with⟨w,L,k1,k2⟩|⟨L,k1,k2⟩
 ·exact .inl ⟨w,by rw[←e,k1],k2⟩
 ·exact .inr ⟨by rw[←e,k1],k2⟩
theorem Ly(hb:Wv a b=0)(ho:W6 a b=0):(∃w,X3 a b=((w,false),0)∧FirstP (Wj a) (wnd Cg a b) w)∨(X3 a b=(([],true),0)∧∀v,(∀z∈v,Wj a z)→En b v=true→En a v=true):=by
 unfold X3;rw[if_neg (fun k=>k ho)];rcases Xo hb ho Cg with⟨w,h1,h2⟩|⟨h1,h2⟩
 ·rw[h1];exact .inl ⟨w,rfl,h2⟩
 ·rw[h1];refine .inr ⟨rfl,fun v hv hb=> ?_⟩;have:=h2 v hv;unfold wnd Cg at this;rw[hb]at this;simpa using this
theorem u0f(hb:Wv a b=0)(ho:W6 a b=0):(∃w,Vi a b=((w,true),0)∧FirstP (Wj a) (wnd neB a b) w)∨(Vi a b=(([],false),0)∧∀v,(∀z∈v,Wj a z)→En a v=En b v):=by
 unfold Vi;rw[if_neg (fun k=>k ho)];rcases Xo hb ho neB with⟨w,h1,h2⟩|⟨h1,h2⟩
 ·rw[h1];exact .inl ⟨w,rfl,h2⟩
 ·rw[h1];refine .inr ⟨rfl,fun v hv=> ?_⟩;have:=h2 v hv;unfold wnd neB at this;simpa using this
theorem Nd(ho:W6 a b≠0):X3 a b=(([],false),W6 a b):=by unfold X3;rw[if_pos ho]
theorem f0y(ho:W6 a b≠0):Vi a b=(([],false),W6 a b):=by unfold Vi;rw[if_pos ho]
theorem Wt{w:List Sy}(h:FirstP (Wj a) (wnd Cg a b) w):En b w=true∧En a w=false:=by have hh:=h.hit;unfold wnd Cg at hh;rw[zQ]at hh;exact⟨hh.1,by simpa using hh.2⟩
theorem Jq{w:List Sy}(h:FirstP (Wj a) (wnd neB a b) w):En a w≠En b w:=by have hh:=h.hit;unfold wnd neB at hh;simpa using hh
structure IncW (a b:Aut) (n:Nat) (w:List Sy):Prop where
 okw:∀z∈w,Wj a z
 len:w.length≤4096
 yes:En b w=true
 no:En a w=false
 far:n≤w.length
theorem Lq(hb:Wv a b=0)(z1:a.fin.length≤8)(z6:b.fin.length≤8):
  (W6 a b=5∧X3 a b=(([],false),5)∧X3 b a=(([],false),5)∧Vi a b=(([],false),5))∨
  (∃v w x i j d,X3 a b=((v,i),0)∧X3 b a=((w,j),0)∧Vi a b=((x,d),0)∧d= !(i && j)∧(i=false→IncW a b x.length v)∧(j=false→IncW b a x.length w)∧
   (d=true→(∀z∈x,Wj a z)∧x.length≤4096∧En a x≠En b x)∧(d=false→v=[]∧w=[]∧x=[])):=by
 obtain⟨h1,h2,h3⟩:=Ep.1 hb;have hs:=k0q hb;rcases Kt hb with ho|ho
 ·obtain⟨d1,d2⟩:=(Yq hb).1 ho;have za:W6 b a=0:=by rw[hs];exact ho
  right;rcases Ly hb ho with⟨v,i1,i2⟩|⟨i1,i2⟩<;>rcases Ly (D2 hb) za with⟨w,j1,j2⟩|⟨j1,j2⟩<;>rcases u0f hb ho with⟨x,s1,s2⟩|⟨s1,s2⟩
  ·refine⟨v,w,x,false,false,true,i1,j1,s1,rfl,fun _=>⟨i2.okw,Lb h1 h2 h3 z6 (Wz d1) i2,(Wt i2).1,(Wt i2).2,?_⟩,fun _=>⟨j2.okw,Lb h2 h1 h3.symm z1 (Wz d2) j2,(Wt j2).1,(Wt j2).2,?_⟩,fun _=>⟨s2.okw,C3 h1 h2 h3 z1 z6 (Wz d1) (Wz d2) s2,Jq s2⟩,fun h=>(by cases h)⟩
   ·exact Y1 (s2.least v i2.okw (by unfold wnd neB;rw[(Wt i2).1,(Wt i2).2];rfl))
   ·exact Y1 (s2.least w (fun z hz=>(Wx h3).1 (j2.okw z hz)) (by unfold wnd neB;rw[(Wt j2).1,(Wt j2).2];rfl))
  ·have:=s2 v i2.okw;rw[(Wt i2).1,(Wt i2).2]at this;cases this
  ·refine⟨v,[],x,false,true,true,i1,j1,s1,rfl,fun _=>⟨i2.okw,Lb h1 h2 h3 z6 (Wz d1) i2,(Wt i2).1,(Wt i2).2,?_⟩,fun h=>(by cases h),fun _=>⟨s2.okw,C3 h1 h2 h3 z1 z6 (Wz d1) (Wz d2) s2,Jq s2⟩,fun h=>(by cases h)⟩;exact Y1 (s2.least v i2.okw (by unfold wnd neB;rw[(Wt i2).1,(Wt i2).2];rfl))
  ·have:=s2 v i2.okw;rw[(Wt i2).1,(Wt i2).2]at this;cases this
  ·refine⟨[],w,x,true,false,true,i1,j1,s1,rfl,fun h=>(by cases h),fun _=>⟨j2.okw,Lb h2 h1 h3.symm z1 (Wz d2) j2,(Wt j2).1,(Wt j2).2,?_⟩,fun _=>⟨s2.okw,C3 h1 h2 h3 z1 z6 (Wz d1) (Wz d2) s2,Jq s2⟩,fun h=>(by cases h)⟩;exact Y1 (s2.least w (fun z hz=>(Wx h3).1 (j2.okw z hz)) (by unfold wnd neB;rw[(Wt j2).1,(Wt j2).2];rfl))
  ·have:=s2 w fun z hz=>(Wx h3).1 (j2.okw z hz);rw[(Wt j2).1,(Wt j2).2]at this;cases this
  ·have hx:=Jq s2;have h4:=i2 x s2.okw;have h5:=j2 x fun z hz=>(Wx h3).2 (s2.okw z hz);cases ha:En a x with
   |true=>rw[ha]at hx h5;exact absurd (h5 rfl).symm hx
   |false=>
    cases hb':En b x with
    |true=>rw[h4 hb']at ha;cases ha
    |false=>rw[ha,hb']at hx;exact absurd rfl hx
  ·exact⟨[],[],[],true,true,false,i1,j1,s1,rfl,fun h=>(by cases h),fun h=>(by cases h),fun h=>(by cases h),fun _=>⟨rfl,rfl,rfl⟩⟩
 ·left;have z8:W6 a b≠0:=by omega
  have z7:W6 b a≠0:=by omega
  refine⟨ho,?_,?_,?_⟩
  ·rw[Nd z8,ho]
  ·rw[Nd z7,hs,ho]
  ·rw[f0y z8,ho]
end
end Go.Abs
namespace Go.Abs
theorem k0e{a b:Aut}(hf:R0 a b=0){l:List (Int×Int)}(hl:l.length≤2048)(z1:∀s∈l,inS a s.1∧inS b s.2):Bi a b ⟨1,l,[]⟩=if Gm a b l=true then 0 else 18:=by
 have hp:Oi a b ⟨1,l,[]⟩=0:=by
  unfold Oi;rw[if_neg (by simp),if_neg (by simp),if_neg (by simp;omega),if_neg]
  ·rfl
  ·simp only[uM];rw[zM];exact fun s hm=>decide_eq_true (z1 s hm)
 unfold Bi;rw[if_neg (fun k=>k hf),if_neg (fun k=>k hp)];simp only;rw[if_pos trivial]
def w2z(a b:Aut):List (Int×Int):=(Wo a.fin.length).flatMap fun i=>(Wo b.fin.length).map fun j=>(i,j)
end Go.Abs
namespace Go.Abs
def g1m:Prd:=[[⟨-1099511627776,1099511627776⟩]]
def d1r:Prd:=[[⟨-1099511627776,4⟩]]
def y18:Prd:=[[⟨5,1099511627776⟩]]
def exQ:Aut:=⟨1,[false,true],[⟨0,1,g1m⟩,⟨1,0,g1m⟩]⟩
def exR:Aut:=⟨1,[false,true],[⟨0,1,d1r⟩,⟨0,0,y18⟩,⟨1,0,d1r⟩,⟨1,1,y18⟩]⟩
theorem d1x:Ux exQ=0:=by decide+kernel
theorem g1r:Ux exR=0:=by decide+kernel
theorem Ar:Dfa exQ:=(Uc _).1 d1x
theorem y0i:Dfa exR:=(Uc _).1 g1r
theorem k1j:We exQ=0:=by decide+kernel
theorem v1n:We exR=0:=by decide+kernel
theorem u0h:R0 exQ exR=0:=Up.2 ⟨Ar,y0i,rfl⟩
theorem Jt:R0 exQ exQ=0:=Up.2 ⟨Ar,Ar,rfl⟩
theorem x0g:(Sa exQ exR 0 0).1=some [⟨0,5⟩]:=by kernel_rfl
theorem f0i:(Sa exQ exQ 0 0).1=none:=by kernel_rfl
theorem k1u:(q1k exQ exR Cg).1=some [⟨0,-1099511627776⟩,⟨0,5⟩]:=by kernel_rfl
theorem y12:X2 exQ exQ=[(0,0),(1,1)]:=by kernel_rfl
theorem w15:Gm exQ exQ [(0,0)]=false:=by kernel_rfl
def xqC:List Prd:=[g1m]
def xrC:List Prd:=[d1r,y18]
def xqQ:List (List Int):=[[0],[1]]
theorem d0b:(Km exQ.types (onA exQ)).1=0∧(Km exQ.types (onA exQ)).2=xqC:=by decide+kernel
theorem d07:(Km exR.types (onA exR)).1=0∧(Km exR.types (onA exR)).2=xrC:=by decide+kernel
theorem d0z:Dg exQ xqC=some xqQ:=by decide+kernel
theorem f01:Dg exR xrC=some xqQ:=by decide+kernel
theorem j00:Ub exQ xqC xqQ=exQ:=by kernel_rfl
theorem f0j:Ub exR xrC xqQ=exR:=by kernel_rfl
theorem w1i:Xl exQ=false:=by decide+kernel
theorem z10:Xl exR=false:=by decide+kernel
theorem q16{a d:Aut}{C:List Prd}{Q:List (List Int)}(hk:We a=0)(hm:(Km a.types (onA a)).1=0∧(Km a.types (onA a)).2=C)(hs:Dg a C=some Q)(hd:Ub a C Q=d)(hb:Xl d=false):Ef a=(0,d):=by
 have z6:Ri a.types (onA a)=(0,C):=by rw[←v02];exact tl hm.1 hm.2
 have z1:Ov a=(0,C,Q):=by
  rw[Ov,if_neg (fun k=>k hk),z6];rw[if_neg (by simp)];split
  ·rename_i h;have h2:Dg a C=none:=h;rw[hs]at h2;cases h2
  ·rename_i R h;have h2:Dg a C=some R:=h;rw[hs]at h2;rw[←Option.some.inj h2]
 rw[Ef,z1,if_neg (by simp)];show q00 (Ub a C Q)=_;rw[hd,Nj,hb];rfl
theorem Kb:Ef exQ=(0,exQ):=q16 k1j d0b d0z j00 w1i
theorem Kk:Ef exR=(0,exR):=q16 v1n d07 f01 f0j z10
theorem z13:Wv exQ exR=0:=Ep.2 ⟨Ar.ok,y0i.ok,rfl⟩
theorem z08:W6 exQ exR=0:=(Yq z13).2 ⟨by rw[Kb],by rw[Kk]⟩
theorem q1e:B8 exQ exR=(⟨2,[],[⟨0,5⟩]⟩,0):=by rw[B8,if_neg (fun k=>k u0h),←P3 Ar y0i rfl,x0g]
theorem z0t:(Dy exQ exQ neB).1=none:=by rw[←P3 Ar Ar rfl,f0i]
theorem v0u:R6 (Tq exQ exQ)=[(0,0),(1,1)]:=by obtain⟨h1,h2,h3⟩:=S7 ⟨Ar.ok,Ar.det⟩ ⟨Ar.ok,Ar.det⟩ rfl z0t;rw[h2,y12];exact Aq (Sq (by decide)) (by simp[pLt]) fun s=>R3
theorem u0r:B8 exQ exQ=(⟨1,[(0,0),(1,1)],[]⟩,0):=by
 have hl:(Tq exQ exQ).length=2:=by rw[←(xZ (Tq exQ exQ) pLe).length_eq];show(R6 (Tq exQ exQ)).length=2;rw[v0u];rfl
 rw[B8,if_neg (fun k=>k Jt),z0t];simp only;rw[if_neg (by omega),v0u]
theorem u14:Vi exQ exR=(([⟨0,5⟩],true),0):=by rw[Vi,if_neg (fun k=>k z08),Kb,Kk,←P3 Ar y0i rfl,x0g]
theorem w1w:X3 exQ exR=(([⟨0,-1099511627776⟩,⟨0,5⟩],false),0):=by rw[X3,if_neg (fun k=>k z08)];have:=G6 Ar.ok y0i.ok rfl Kb Kk Cg;rw[Kb,Kk,←this,k1u]
theorem z18:Bi exQ exR ⟨2,[],[⟨0,5⟩]⟩=0:=by have:=(x0e u0h (by decide) (by decide)).2.1;rw[q1e]at this;exact this
theorem w1g:Bi exQ exQ ⟨1,[(0,0),(1,1)],[]⟩=0:=by have:=(x0e Jt (by decide) (by decide)).2.1;rw[u0r]at this;exact this
theorem y1r:Bi exQ exQ ⟨1,[(0,0)],[]⟩=18:=by rw[k0e Jt (by decide) (fun s hs=>by rw[zK]at hs;subst hs;decide),w15];rfl
end Go.Abs
namespace Go.Abs
end Go.Abs
namespace Go.Abs
end Go.Abs
namespace Go.Abs
def z0j:List Iv→Int→Option Int
 |[],_=>none
 |x::l,n=>if n≤x.hi then some (max x.lo n)else z0j l n
def N8:List Iv→Int→Int
 |[],n=>n
 |x::l,n=>N8 l (if x.lo≤n∧n≤x.hi then x.hi+1 else n)
def y04:List (List Iv)→Int→Option Int
 |[],n=>some n
 |l::I,n=>match z0j l n with|some m=>y04 I m|none=>none
def k0p:List (List Iv)→Int→Int
 |[],n=>n
 |l::O,n=>k0p O (N8 l n)
theorem Nf:∀(l:List Iv) (n:Int),Sep l→match z0j l n with|some m=>M l m∧n≤m∧∀k,M l k→n≤k→m≤k|none=>∀k,M l k→k<n
 |[],n,_=>fun k h=>absurd h k0v
 |x::l,n,h=>by
  have hx:=h.1 x (by simp);have sx:=u1m h;rw[z0j];by_cases h1:n≤x.hi
  ·rw[if_pos h1];refine⟨Y5.2 (.inl (by omega)),by omega,fun k hk hn=> ?_⟩;rcases Y5.1 hk with k1|k1
   ·omega
   ·have:=sx k k1;omega
  ·rw[if_neg h1];have ih:=Nf l n (f0a h);cases hc:z0j l n with
   |some m=>
    rw[hc]at ih;obtain⟨i1,i2,i3⟩:=ih;refine⟨Y5.2 (.inr i1),i2,fun k hk hn=> ?_⟩;rcases Y5.1 hk with k1|k1
    ·omega
    ·exact i3 k k1 hn
   |none=>
    rw[hc]at ih;intro k hk;rcases Y5.1 hk with k1|k1
    ·omega
    ·exact ih k k1
theorem Le:∀(l:List Iv) (n:Int),n≤N8 l n∧(∀k,n≤k→¬M l k→N8 l n≤k)∧(N8 l n=n→¬M l n)
 |[],n=>⟨yI _,fun k h _=>h,fun _=>k0v⟩
 |x::l,n=>by
  rw[N8];by_cases h:x.lo≤n∧n≤x.hi
  ·rw[if_pos h];obtain⟨i1,i2,i3⟩:=Le l (x.hi+1);refine⟨by omega,fun k hk hn=>i2 k ?_ (fun hm=>hn (Y5.2 (.inr hm))),fun e=>by omega⟩;have:¬(x.lo≤k∧k≤x.hi):=fun hm=>hn (Y5.2 (.inl hm));omega
  ·rw[if_neg h];obtain⟨i1,i2,i3⟩:=Le l n;exact⟨i1,fun k hk hn=>i2 k hk fun hm=>hn (Y5.2 (.inr hm)),fun e hm=>(Y5.1 hm).elim h (i3 e)⟩
theorem Nb:∀(I:List (List Iv)) (n:Int),(∀l∈I,Sep l)→match y04 I n with|some m=>n≤m∧(∀k,n≤k→(∀l∈I,M l k)→m≤k)∧(m=n→∀l∈I,M l n)|none=>∀k,n≤k→¬ ∀l∈I,M l k
 |[],n,_=>⟨yI _,fun k h _=>h,fun _ l h=>by cases h⟩
 |l::I,n,h=>by
  have h1:=Nf l n (h l (by simp));rw[y04];cases hc:z0j l n with
  |none=>rw[hc]at h1;intro k hk hm;have:=h1 k (hm l (by simp));omega
  |some m=>
   rw[hc]at h1;obtain⟨a1,a2,a3⟩:=h1;have ih:=Nb I m fun l hl=>h l (by simp[hl]);simp only;cases hd:y04 I m with
   |none=>rw[hd]at ih;intro k hk hm;exact ih k (a3 k (hm l (by simp)) hk) fun j hj=>hm j (by simp[hj])
   |some m'=>
    rw[hd]at ih;obtain⟨b1,b2,b3⟩:=ih;refine⟨by omega,fun k hk hm=>b2 k (a3 k (hm l (by simp)) hk) fun j hj=>hm j (by simp[hj]),fun e j hj=> ?_⟩;have e1:m=n:=by omega
    rcases zU.1 hj with rfl|hj
    ·rw[←e1];exact a1
    ·rw[←e1];exact b3 (by omega) j hj
theorem Bb:∀(O:List (List Iv)) (n:Int),n≤k0p O n∧(∀k,n≤k→(∀l∈O,¬M l k)→k0p O n≤k)∧(k0p O n=n→∀l∈O,¬M l n)
 |[],n=>⟨yI _,fun k h _=>h,fun _ l h=>by cases h⟩
 |l::O,n=>by
  rw[k0p];obtain⟨h1,h2,h3⟩:=Le l n;obtain⟨i1,i2,i3⟩:=Bb O (N8 l n);refine⟨by omega,fun k hk hm=>i2 k (h2 k hk (hm l (by simp))) fun j hj=>hm j (by simp[hj]),fun e j hj=> ?_⟩;have e1:N8 l n=n:=by omega
  rcases zU.1 hj with rfl|hj
  ·exact h3 e1
  ·have:=i3 (by rw[e,e1]) j hj;rw[e1]at this;exact this
def q15(I O:List (List Iv))(n:Int):Option Int:=match y04 I n with|some m=>some (k0p O m)|none=>none
def Gb(I O:List (List Iv))(k:Int):Prop:=(∀l∈I,M l k)∧∀l∈O,¬M l k
theorem c00(I O:List (List Iv))(n:Int)(h:∀l∈I,Sep l):match q15 I O n with|some m=>n≤m∧(∀k,n≤k→Gb I O k→m≤k)∧(m=n→Gb I O n)|none=>∀k,n≤k→¬Gb I O k:=by
 have h1:=Nb I n h;unfold q15;cases hc:y04 I n with
 |none=>rw[hc]at h1;exact fun k hk hg=>h1 k hk hg.1
 |some m=>
  rw[hc]at h1;obtain⟨a1,a2,a3⟩:=h1;obtain⟨b1,b2,b3⟩:=Bb O m;refine⟨by omega,fun k hk hg=>b2 k (a2 k hk hg.1) hg.2,fun e=> ?_⟩;have e1:m=n:=by omega
  refine⟨a3 e1,?_⟩;have:=b3 (by omega);rw[e1]at this;exact this
def P0(t:Nat)(ps:List Prd):List (List Iv):=ps.map fun p=>p.getD t []
structure FitP (T:Nat) (ins outs:List Prd) (P:Prd):Prop where
 wf:PWf T P
 mem:∀t n,PM P t n↔t<T∧inR n∧(∀p∈ins,PM p t n)∧∀p∈outs,¬PM p t n
theorem Ko{ins outs:List Prd}{t:Nat}{n:Int}:Gb (P0 t ins) (P0 t outs) n↔(∀p∈ins,PM p t n)∧∀p∈outs,¬PM p t n:=by
 unfold Gb P0;constructor
 ·rintro⟨h1,h2⟩;exact⟨fun p hp=>J7.2 (h1 _ (zL.2 ⟨p,hp,rfl⟩)),fun p hp hm=>h2 _ (zL.2 ⟨p,hp,rfl⟩) (J7.1 hm)⟩
 ·rintro⟨h1,h2⟩;refine⟨fun l hl=> ?_,fun l hl hm=> ?_⟩
  ·obtain⟨p,hp,rfl⟩:=zL.1 hl;exact J7.1 (h1 p hp)
  ·obtain⟨p,hp,rfl⟩:=zL.1 hl;exact h2 p hp (J7.2 hm)
def Lh(P:Prd):Option Sy:=if W2 P then none else some (Qi P)
theorem FitP.some{T:Nat}{ins outs:List Prd}{P:Prd}(h:FitP T ins outs P){t:Nat}{n:Int}(ht:t<T)(hb:∀t',t'<t→∀k,¬PM P t' k)(hn:inR n)(hg:Gb (P0 t ins) (P0 t outs) n)(hl:∀k,inR k→Gb (P0 t ins) (P0 t outs) k→n≤k):Lh P= .some ⟨t,n⟩:=by
 have hm:PM P t n:=(h.mem t n).2 ⟨ht,hn,Ko.1 hg⟩;obtain⟨g1,g2,g3⟩:=Dk h.wf ⟨t,n,hm⟩;unfold Lh;rw[if_neg (by rw[(Cn h.wf).2 ⟨t,n,hm⟩];simp)]
 congr 1
 rcases g3 ⟨t,n⟩ ⟨by simp,by simpa using ht,hn⟩ (by simpa using hm)with e|e
 ·exact e
 ·exfalso;have k:=(h.mem _ _).1 g2;rcases e with e|⟨e1,e2⟩
  ·simp only at e;exact hb _ (by have:=g1.1;omega) _ g2
  ·simp only at e1 e2;have e3:(Qi P).ty.toNat=t:=by omega
   rw[e3]at k;have:=hl _ k.2.1 (Ko.2 k.2.2);omega
theorem FitP.none{T:Nat}{ins outs:List Prd}{P:Prd}(h:FitP T ins outs P)(hb:∀t',t'<T→∀k,¬PM P t' k):Lh P= .none:=by unfold Lh;rw[if_pos ((Rb h.wf).2 fun t n hm=>hb t (h.wf.lt hm).1 n hm)]
theorem FitP.no{T:Nat}{ins outs:List Prd}{P:Prd}(h:FitP T ins outs P){t:Nat}(hb:∀k,inR k→¬Gb (P0 t ins) (P0 t outs) k)(k:Int):¬PM P t k:=fun hm=>by have:=(h.mem t k).1 hm;exact hb k this.2.1 (Ko.2 this.2.2)
end Go.Abs
namespace Go.Abs
def Hv:Option Mv→List Prd
 |some m=>[m.on]
 |none=>[]
def Ps(a:Aut)(s:Int):Option Mv→List Prd
 |some _=>[]
 |none=>(mvS a s).map (·.on)
theorem Cv{a:Aut}(h:OkA a){s:Int}{o:Option Mv}(ho:o∈Wd a s):FitP a.types.toNat (Hv o) (Ps a s o) (Cd a s o):=by
 have hw:=Lc h ho;refine⟨hw,fun t n=> ?_⟩;cases o with
 |some m=>
  constructor
  ·intro hm;exact⟨(hw.lt hm).1,(hw.lt hm).2,fun p hp=>by rw[zK.1 hp];exact hm,fun p hp=>by cases hp⟩
  ·rintro⟨_,_,h1,_⟩;exact h1 m.on (zK.2 rfl)
 |none=>
  unfold Cd Ps Hv;rw[Sw (Fa (F8 h s)),Hy (F8 h s)];constructor
  ·rintro⟨⟨h1,h2⟩,h3⟩;exact⟨h1,h2,fun p hp=>(by cases hp),fun p hp hm=>h3 ⟨p,hp,hm⟩⟩
  ·rintro⟨h1,h2,_,h3⟩;exact⟨⟨h1,h2⟩,fun⟨p,hp,hm⟩=>h3 p hp hm⟩
theorem y1b{a b:Aut}(ha:OkA a)(hb:OkA b)(ht:b.types=a.types){s:Int×Int}{o r:Option Mv}(ho:o∈Wd a s.1)(hr:r∈Wd b s.2):FitP a.types.toNat (Hv o++Hv r) (Ps a s.1 o++Ps b s.2 r) (Ve a b s o r):=by
 have f1:=Cv ha ho;have f2:=Cv hb hr;rw[ht]at f2;refine⟨Y7 f1.wf f2.wf.1,fun t n=> ?_⟩;unfold Ve;rw[E8 f1.wf.1 f2.wf.1,f1.mem,f2.mem];constructor
 ·rintro⟨⟨h1,h2,h3,h4⟩,_,_,h5,h6⟩;exact⟨h1,h2,fun p hp=>(zN.1 hp).elim (h3 p) (h5 p),fun p hp=>(zN.1 hp).elim (h4 p) (h6 p)⟩
 ·rintro⟨h1,h2,h3,h4⟩;exact⟨⟨h1,h2,fun p hp=>h3 p (yT _ hp),fun p hp=>h4 p (yT _ hp)⟩,h1,h2,fun p hp=>h3 p (wV _ hp),fun p hp=>h4 p (wV _ hp)⟩
theorem c0e(a b:Aut)(s:Int×Int)(o r:Option Mv):d0e a b s o r=(Lh (Ve a b s o r)).map fun x=>(x,(Py o,Py r)):=by
 unfold d0e Lh;by_cases h:W2 (Ve a b s o r)=true
 ·rw[if_pos h,if_pos h];rfl
 ·rw[if_neg h,if_neg h];rfl
def Zz(a:Aut)(s:Int):Bool:=(Lh (Cd a s none)).isSome
def Gk(a:Aut):Bool:=Lp a && (Wo a.fin.length).all fun s=> !Zz a s
theorem Br{a:Aut}(h:OkA a)(s:Int):Zz a s=false↔∀x,Wj a x→∃m∈mvS a s,Rj m.on x=true:=by
 have hw:=Lc h (s:=s) (Y8.2 (.inl rfl));unfold Zz Lh;constructor
 ·intro hl x hx;have hv:W2 (Cd a s none)=true:=by
   by_cases hv:W2 (Cd a s none)=true
   ·exact hv
   ·rw[if_neg hv]at hl;cases hl
  have h1:=(Rb hw).1 hv x.ty.toNat x.num;have h2:¬ ∀m∈mvS a s,Rj m.on x=false:=fun k=>h1 ((Ut h s hx).2 k);simpa using h2
 ·intro z1;rw[if_pos]
  ·rfl
  ·refine(Rb hw).2 fun t n hm=> ?_;have z6:=hw.lt hm;have hx:Wj a ⟨t,n⟩:=Ur.1 ⟨by simp,by simpa using z6.1,z6.2⟩;obtain⟨m,h1,h2⟩:=z1 _ hx;have:=(Ut h s hx).1 (by unfold z0g;simpa using hm) m h1;rw[h2]at this;cases this
theorem v08{a:Aut}(h:OkA a):Gk a=true↔Dfa a:=by
 unfold Gk;rw[zQ,zM];constructor
 ·rintro⟨h1,h2⟩;refine⟨h,(Vq h.wfA).1 h1,fun s s0 s1 x hx=> ?_⟩;obtain⟨m,k1,k2⟩:=(Br h s).1 (by have:=h2 s (Wq.2 ⟨s0,s1⟩);simpa using this) x hx;exact⟨m,(E5.1 k1).1,(E5.1 k1).2,k2⟩
 ·intro hd;refine⟨(Vq h.wfA).2 hd.det,fun s hs=> ?_⟩;have hs:=Wq.1 hs;have:=(Br h s).2 fun x hx=>by obtain⟨m,k1,k2,k3⟩:=hd.full s hs.1 hs.2 x hx;exact⟨m,E5.2 ⟨k1,k2⟩,k3⟩
  rw[this];rfl
theorem Mw(a b:Aut):R0 a b=if Wv a b≠0 then Wv a b else if Gk a=false∨Gk b=false then 3 else 0:=by
 unfold R0;by_cases h1:Wv a b≠0
 ·rw[if_pos h1,if_pos h1]
 rw[if_neg h1,if_neg h1];obtain⟨ha,hb,_⟩:=Ep.1 (Decidable.not_not.1 h1);have e:∀ {c:Aut},OkA c→(Gk c=false↔Ux c≠0):=fun {c} hc=>by rw[←Bool.not_eq_true,v08 hc,←Uc]
 by_cases h2:Ux a≠0∨Ux b≠0
 ·rw[if_pos h2,if_pos (h2.imp (e ha).2 (e hb).2)]
 ·rw[if_neg h2,if_neg (fun k=>h2 (k.imp (e ha).1 (e hb).1))]
end Go.Abs
namespace Go.Abs
structure Vst where
 s:Int×Int
 fr:Nat
 on:Sy
 fst:Bool
structure VOk (V:List Vst) (L:List ((Int×Int)×List Sy)):Prop where
 len:V.length=L.length
 key:∀(i:Nat) (v:Vst) (e:(Int×Int)×List Sy),V[i]? =some v→L[i]? =some e→v.s=e.1
 way:∀(i:Nat) (v:Vst) (e:(Int×Int)×List Sy),V[i]? =some v→L[i]? =some e→(v.fst=true∧e.2=[])∨(v.fst=false∧v.fr<i∧∃e',L[v.fr]? =some e'∧e.2=e'.2++[v.on])
theorem VOk.start:VOk [⟨(0,0),0,⟨0,0⟩,true⟩] [((0,0),[])]:=by
 refine⟨rfl,fun i v e hv he=> ?_,fun i v e hv he=> ?_⟩
 ·have hi:i=0:=by have:=(zA.1 hv).1;simp at this;omega
  subst hi;simp at hv he;rw[←hv,←he]
 ·have hi:i=0:=by have:=(zA.1 hv).1;simp at this;omega
  subst hi;simp at hv he;rw[←hv,←he];exact .inl ⟨rfl,rfl⟩
theorem VOk.push{V:List Vst}{L:List ((Int×Int)×List Sy)}(h:VOk V L){n:Nat}{e:(Int×Int)×List Sy}(hn:L[n]? =some e)(t:Int×Int)(x:Sy):VOk (V++[⟨t,n,x,false⟩]) (L++[(t,e.2++[x])]):=by
 have z6:=(zA.1 hn).1;have hl:=h.len;refine⟨by simp[hl],fun i v d hv hd=> ?_,fun i v d hv hd=> ?_⟩
 ·by_cases hi:i<L.length
  ·rw[zD (by omega)]at hv hd;exact h.key i v d hv hd
  ·have z1:i=L.length:=by have:=(zA.1 hd).1;simp at this;omega
   rw[zE (by omega),z1]at hv hd;simp[hl]at hv hd;rw[←hv,←hd]
 ·by_cases hi:i<L.length
  ·rw[zD (by omega)]at hv hd;rcases h.way i v d hv hd with k|⟨k1,k2,e',k3,k4⟩
   ·exact .inl k
   ·exact .inr ⟨k1,k2,e',by rw[zD (by omega)];exact k3,k4⟩
  ·have z1:i=L.length:=by have:=(zA.1 hd).1;simp at this;omega
   rw[zE (by omega),z1]at hv hd;simp[hl]at hv hd;rw[←hv,←hd];exact .inr ⟨rfl,by simp;omega,e,by rw[zD z6];exact hn,rfl⟩
theorem VOk.pairs{V:List Vst}{L:List ((Int×Int)×List Sy)}(h:VOk V L):V.map (·.s)=L.map (·.1):=by
 refine List.ext_getElem (by simp[h.len]) fun i h1 h2=> ?_;have hl:i<L.length:=by simpa using h2
 have hv:i<V.length:=by rw[h.len];exact hl
 simp only[List.getElem_map];exact h.key i _ _ (zF hv) (zF hl)
structure DInv (a b:Aut) (L:List ((Int×Int)×List Sy)):Prop where
 nd:(L.map (·.1)).Nodup
 rng:∀e∈L,inD a e.1.1∧inD b e.1.2
theorem DInv.len{a b:Aut}{L:List ((Int×Int)×List Sy)}(h:DInv a b L):L.length≤(a.fin.length+1) * (b.fin.length+1):=by
 have e:L.length=(L.map (·.1)).length:=by rw[zY]
 rw[←Fl,e];refine Pj _ _ h.nd fun x hx=> ?_;obtain⟨e,he,rfl⟩:=zL.1 hx;exact F5 (h.rng e he).1 (h.rng e he).2
theorem DInv.add{a b:Aut}{L:List ((Int×Int)×List Sy)}(h:DInv a b L){t:Int×Int}{w:List Sy}(ht:inD a t.1∧inD b t.2)(hn:t∉L.map (·.1)):DInv a b (L++[(t,w)]):=by
 refine⟨?_,fun e he=> ?_⟩
 ·rw[yU,List.nodup_append];refine⟨h.nd,by simp,fun x hx y hy e=> ?_⟩;simp only[List.map_cons,List.map_nil,zK]at hy;exact hn (by rw[←hy,←e];exact hx)
 ·rcases zN.1 he with he|he
  ·exact h.rng e he
  ·rw[zK.1 he];exact ht
theorem DInv.start{a b:Aut}(ha:OkA a)(hb:OkA b):DInv a b [((0,0),[])]:=by have:=ha.fin;have:=hb.fin;exact⟨by simp,fun e he=>by rw[zK.1 he];exact⟨.inr ⟨yI _,by simp only;omega⟩,.inr ⟨yI _,by simp only;omega⟩⟩⟩
theorem x05{a b:Aut}(ha:Dta a)(hb:Dta b)(ht:b.types=a.types){s:Int×Int}{e:Sy×(Int×Int)}(he:e∈Yz a b s):inD a e.2.1∧inD b e.2.2:=by obtain⟨_,h2⟩:=(Pw ha hb ht s).mem e he;rw[h2];exact⟨H5 ha.ok _ _,H5 hb.ok _ _⟩
end Go.Abs
