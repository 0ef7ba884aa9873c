/- Part Qh of the proof: an abstract machine over the model, and what the functions of the program hand back in its terms. No condition. -/
import Derived.Test.YtjmkolhkojgjpaaGreatDoorQg
import Derived.Test.YtjmkolhkojgjpaaGreatDoorQc
import Derived.Test.YtjmkolhkojgjpaaGreatDoorQd
import Derived.Test.YtjmkolhkojgjpaaGreatDoorQf
import Derived.Test.YtjmkolhkojgjpaaGreatDoorQe
set_option linter.all false
open List renaming range→yA,take_length→zZ,getElem?_eq_getElem→zD,take_succ_eq_append_getElem→zL,foldl_append→x_,range_succ→wT,length_cons→yE,length_take→xB,length_append→zW,mem_of_getElem?→zF,mem_append→zO,mem_singleton→zJ,mem_or_eq_of_mem_set→vK,mem_of_mem_take→yW,getD→yQ,getElem_mem→zG,getElem_of_mem→yC,getElem?_append_right→zC,getElem?_set_self→zH,getElem?_set_ne→zB,append_assoc→xT,getElem?_append_left→zE,mem_cons→zU,not_mem_nil→vL,map_append→yG,length_map→zV,append_nil→xV,nil_append→xP,findIdx?_eq_some_iff_getElem→xS,map_set→u_,mem_append_left→xC,take_of_length_le→zI,ext_getElem→xQ,getElem_eq_iff→yT,take→ur,map→yI,getElem?_eq_some_iff→zA,flatMap_append→wZ,length_drop→yY,mem_map→zM,mem_of_mem_drop→wI,map_take→yR,map_drop→yS,map_cons→yO,any_eq_false→wd,any_eq_true→xN,getElem_cons_zero→uD,mergeSort_perm→wJ,all_eq_true→zP,mem_append_right→vA
open Nat renaming zero_le→xA,mul_le_mul→vM
open Int renaming le_refl→yJ
open Bool renaming not_eq_false→t8
open Prod renaming ext→tI
set_option maxHeartbeats 16000000
set_option linter.unusedSimpArgs false
set_option maxRecDepth 100000
namespace Go.Abs
open Go Go.Proofs Go.Maps Go.RowKit
theorem C4{a:Aut}(h:(Ux a).1=0):OkA a∧∃cl Q,Ux a=(0,cl,Q)∧Dw a cl=some Q∧Cls a cl∧Sub a cl Q∧cl.length≤256∧∀c∈cl,H7 [c]=0∧W2 c=false∧Ed a (Qv c)∧PWf a.types.toNat c∧∀s∈c,s.length≤256:=by
 have h0:Wx a=0:=by
  by_cases h0:Wx a=0
  ·exact h0
  ·rw[Nv h0]at h;exact absurd h h0
 have z1:=(U7 a).1 h0;have hm:(Rs a.types (onA a)).1=0:=by
  by_cases hm:(Rs a.types (onA a)).1=0
  ·exact hm
  ·rw[Ux,if_neg (fun k=>k h0),if_pos hm]at h;exact absurd h hm
 obtain⟨cl,h1,h2,h3,h4⟩:=Vy z1 hm;refine⟨z1,cl,?_⟩;rcases Cq z1 with h5|⟨Q,h5,h6,h7,h8⟩
 ·rw[h5]at h;simp at h
 ·have z6:Wa a.types.toNat (onA a)=cl:=by
   have h9:(Ux a).2.1=cl:=by
    rw[Ux,if_neg (fun k=>k h0),if_neg (fun k=>k hm),h1];split
    ·rename_i hn;rw[Ux,if_neg (fun k=>k h0),if_neg (fun k=>k hm),h1]at h;simp only[hn]at h;simp at h
    ·rfl
   rw[h5]at h9;exact h9
  rw[z6]at h5 h6 h7 h8;exact⟨Q,h5,h6,h2,h7,h3,h4⟩
theorem v1b(H:List AObj)(id:Nat)(a:Aut)(hid:H[id]? =some (.vars (Q0 a)))(s:Int)(h0:0≤s)(h1:s<a.fin.length):FC Tryz.prog 48 [.i s,.vptr id 0] H (fun r H'=>r= .bool (a.fin.getD s.toNat false)∧H'=H):=by
 refine Ey tOk Tryz.func48 rfl Tryz.results48 rfl (by simp[Tryz.ntmps48]) ?_;rw[Tryz.ntmps48];simp only[Qp];have h2:s.toNat<a.fin.length:=by omega
 repeat first|(refine r_ ?_;simp[hid,h0,h1,h2])|refine q_ ?_
def stepG(a:Aut)(Q:List (List Int))(n:Nat)(l:List Int)(g:List Mv)(c:Prd):List Mv:=match V4 Q (Q6 a l (Qv c))with|some t=>Yo n g t c|none=>g
def Eg(a:Aut)(cl:List Prd)(Q:List (List Int))(n:Nat)(l:List Int)(k:Nat):List Mv:=(cl.take k).foldl (stepG a Q n l) []
def Y7(a:Aut)(cl:List Prd)(Q:List (List Int))(n:Nat):List Mv:=(yA n).flatMap fun n=>Jn a cl Q n (Q.getD n [])
theorem P9(a:Aut)(cl:List Prd)(Q:List (List Int))(n:Nat)(l:List Int):Eg a cl Q n l cl.length=Jn a cl Q n l:=by rw[Eg,zZ];rfl
theorem G5(a:Aut)(cl:List Prd)(Q:List (List Int))(n:Nat)(l:List Int){k:Nat}{c:Prd}(h:cl[k]? =some c):Eg a cl Q n l (k+1)=stepG a Q n l (Eg a cl Q n l k) c:=by
 have hk:=Ye h;have hc:cl[k]=c:=by rw[zD hk]at h;exact Option.some.inj h
 rw[Eg,zL hk,x_,hc];rfl
theorem Hx(a:Aut)(cl:List Prd)(Q:List (List Int))(n:Nat):Y7 a cl Q (n+1)=Y7 a cl Q n++Jn a cl Q n (Q.getD n []):=by simp[Y7,wT]
theorem k0n(n:Nat)(g:List Mv)(to:Nat)(c:Prd):(Yo n g to c).length≤g.length+1:=by
 unfold Yo;split
 ·simp
 ·split<;>simp
theorem Vl(a:Aut)(Q:List (List Int))(n:Nat)(l:List Int):∀(cl:List Prd) (g:List Mv),(cl.foldl (stepG a Q n l) g).length≤g.length+cl.length
 |[],g=>by simp
 |c::cl,g=>by
  have h1:=Vl a Q n l cl (stepG a Q n l g c);have h2:(stepG a Q n l g c).length≤g.length+1:=by
   unfold stepG;split
   ·exact k0n _ _ _ _
   ·omega
  rw[List.foldl_cons,yE];omega
theorem Py(a:Aut)(cl:List Prd)(Q:List (List Int))(n:Nat)(l:List Int)(hc:cl.length≤256)(k:Nat):(Eg a cl Q n l k).length≤256:=by have:=Vl a Q n l (cl.take k) [];rw[xB]at this;rw[Eg];simp at this;omega
theorem w0v(a:Aut)(cl:List Prd)(Q:List (List Int))(hq:Q.length≤256)(hc:cl.length≤256):∀n,n<Q.length→(Y7 a cl Q n).length≤n * 256∧(Y7 a cl Q n).length≤65536:=by
 have:∀n,(Y7 a cl Q n).length≤n * 256:=fun n=>by
  induction n with
  |zero=>simp[Y7]
  |succ n ih=>
   have h:=Py a cl Q n (Q.getD n []) hc cl.length;rw[P9]at h;have:Y7 a cl Q (n+1)=Y7 a cl Q n++Jn a cl Q n (Q.getD n []):=by simp[Y7,wT]
   rw[this,zW];omega
 exact fun n hn=>⟨this n,by have:=this n;omega⟩
theorem S0(a:Aut)(cl:List Prd)(Q:List (List Int))(n:Nat)(l:List Int):Eg a cl Q n l 0=[]:=rfl
theorem z1z{a:Aut}{Q:List (List Int)}(z1:∀l∈Q,l≠[]){n:Nat}{l:List Int}{g:List Mv}{c:Prd}(h:Q6 a l (Qv c)=[]):stepG a Q n l g c=g:=by
 unfold stepG;rw[h];cases hq:V4 Q []with
 |none=>rfl
 |some t=>exact absurd rfl (z1 _ (zF (He hq)))
theorem v0r{a:Aut}{Q:List (List Int)}(hn:Q.Nodup){n t:Nat}{l:List Int}{g:List Mv}{c:Prd}(h:Q[t]? =some (Q6 a l (Qv c))):stepG a Q n l g c=Yo n g t c:=by unfold stepG;rw[g0g hn h]
theorem z1h{T n to:Nat}{g:List Mv}{c:Prd}(hg:∀m∈g,PWf T m.on)(hc:PWf T c):∀m∈Yo n g to c,PWf T m.on:=by
 intro m hm;unfold Yo at hm;split at hm
 ·rcases zO.1 hm with hm|hm
  ·exact hg m hm
  ·rw[zJ.1 hm];exact hc
 ·split at hm
  ·rename_i m2 z1;rcases vK hm with hm|rfl
   ·exact hg m hm
   ·exact Gd (hg _ (zF z1)) hc
  ·exact hg m hm
theorem Mr{a:Aut}{T:Nat}{Q:List (List Int)}{n:Nat}{l:List Int}{cl:List Prd}(z1:∀c∈cl,PWf T c):∀k,∀m∈Eg a cl Q n l k,PWf T m.on:=by
 have:∀(cl:List Prd) (g:List Mv),(∀c∈cl,PWf T c)→(∀m∈g,PWf T m.on)→∀m∈cl.foldl (stepG a Q n l) g,PWf T m.on:=by
  intro cl;induction cl with
  |nil=>intro g _ hg;exact hg
  |cons c cl ih=>
   intro g hc hg;refine ih _ (fun x hx=>hc x (by simp[hx])) fun m hm=> ?_;unfold stepG at hm;split at hm
   ·exact z1h hg (hc c (by simp)) m hm
   ·exact hg m hm
 exact fun k=>this _ _ (fun c hc=>z1 c (yW hc)) (fun m hm=>by simp at hm)
def AObj.isLp:AObj→Bool
 | .lp .. =>true
 |_=>false
theorem j1y{T:Nat}{c:Prd}(hw:PWf T c)(hz:∀s∈c,s.length≤256){i:Nat}(hi:i<T):(Wi [c] i).length≤1000000:=by
 have h:i<c.length:=by rw[hw.1];exact hi
 have:Wi [c] i=c[i]:=by simp[Wi,yQ,h]
 rw[this];have:=hz _ (zG h);omega
theorem u1z{T:Nat}{p c:Prd}(hp:PWf T p)(hw:PWf T c)(h1:∀s∈p,s.length≤65536)(hz:∀s∈c,s.length≤256){i:Nat}(hi:i<T):(Wi [p,c] i).length≤1000000:=by
 have h:i<c.length:=by rw[hw.1];exact hi
 have h2:i<p.length:=by rw[hp.1];exact hi
 have:Wi [p,c] i=p[i]++c[i]:=by simp[Wi,yQ,h,h2]
 rw[this,zW];have:=hz _ (zG h);have:=h1 _ (zG h2);omega
theorem w0m(a:Aut)(cl:List Prd)(Q:List (List Int)):Y7 a cl Q Q.length=(Y0 a cl Q).mv:=rfl
theorem D9(a:Aut)(cl:List Prd)(Q:List (List Int)):(Y0 a cl Q).fin=Q.map (Tk a):=rfl
theorem J0(a:Aut)(cl:List Prd)(Q:List (List Int)):(Y0 a cl Q).types=a.types:=rfl
theorem q0f(d:Aut):x08 d=if Z6 d then(5,Oz)else(0,d):=rfl
theorem d0d(a:Aut)(cl:List Prd)(Q:List (List Int))(hq:Q.length≤256)(hc:cl.length≤256):(Y7 a cl Q Q.length).length≤65536:=by
 have:∀n,(Y7 a cl Q n).length≤n * 256:=fun n=>by
  induction n with
  |zero=>simp[Y7]
  |succ n ih=>have h:=Py a cl Q n (Q.getD n []) hc cl.length;rw[P9]at h;rw[Hx,zW];omega
 have:=this Q.length;omega
theorem k0c{p c:Prd}{A B:Nat}(hp:∀s∈p,s.length≤A)(hc:∀s∈c,s.length≤B):∀s∈W9 p c,s.length≤A+B:=by intro s hs;obtain⟨i,hi,rfl⟩:=yC hs;simp only[W9,List.length_zipWith]at hi;simp only[W9,List.getElem_zipWith];refine Nat.le_trans (z1p _) ?_;rw[zW];have h1:=hp _ (zG (by omega:i<p.length));have h2:=hc _ (zG (by omega:i<c.length));omega
theorem q06{a:Aut}{Q:List (List Int)}{n:Nat}{l:List Int}{cl:List Prd}(z6:∀c∈cl,∀s∈c,s.length≤256)(z8:cl.length≤256):∀k,∀m∈Eg a cl Q n l k,∀s∈m.on,s.length≤65536:=by
 have key:∀(cl:List Prd) (g:List Mv) (B:Nat),(∀c∈cl,∀s∈c,s.length≤256)→(∀m∈g,∀s∈m.on,s.length≤B)→∀m∈cl.foldl (stepG a Q n l) g,∀s∈m.on,s.length≤B+cl.length * 256:=by
  intro cl;induction cl with
  |nil=>intro g B _ hg m hm s hs;have:=hg m hm s hs;simp;omega
  |cons c cl ih=>
   intro g B hc hg m hm s hs;have h1:∀m∈stepG a Q n l g c,∀s∈m.on,s.length≤B+256:=by
    intro m hm s hs;have z1:=hc c (by simp);unfold stepG Yo at hm;split at hm
    ·split at hm
     ·rcases zO.1 hm with hm|hm
      ·have:=hg m hm s hs;omega
      ·rw[zJ.1 hm]at hs;have:=z1 s hs;omega
     ·split at hm
      ·rename_i m2 z7;rcases vK hm with hm|rfl
       ·have:=hg m hm s hs;omega
       ·exact k0c (hg _ (zF z7)) z1 s hs
      ·have:=hg m hm s hs;omega
    ·have:=hg m hm s hs;omega
   have:=ih (stepG a Q n l g c) (B+256) (fun x hx=>hc x (by simp[hx])) h1 m hm s hs;rw[yE];omega
 intro k m hm s hs;have:=key (cl.take k) [] 0 (fun c hc=>z6 c (yW hc)) (fun m hm=>by simp at hm) m hm s hs;rw[xB]at this;have:min k cl.length≤256:=by omega
 omega
theorem Pw(a:Aut)(cl:List Prd)(Q:List (List Int)):Y7 a cl Q 0=[]:=rfl
attribute [local irreducible] Ux Q6 Qv mpT Tc x08 Y0 Y7 Eg stepG Tk Z6
theorem O5(a:Aut):PC Tryz.prog 15 [encA a] (fun r=>r= .tup [encA (Ro a).2,.i (Ro a).1]):=by
 refine Qs tOk Tryz.func15 rfl Tryz.results15 rfl (by simp[Tryz.ntmps15]) ?_;rw[Tryz.ntmps15];simp only[Qp];simp only[encA];repeat first|(refine r_ ?_;simp)|refine q_ ?_
 have yd:=x01 [.vars (Q0 a),.vars [.i 0,.nils,.nils]] a;refine Wo rfl rfl yd rfl ?_;rintro res H' ⟨hk,⟨he,rfl⟩|⟨he,r,p,m,rfl,ht,hr,hp,hm⟩⟩
 ·have hd:Ro a=((Ux a).1,Oz):=by rw[Ro,if_pos he]
  rw[hd];have k0:=hk 0 (by simp);have k1:=hk 1 (by simp);simp at k0 k1;simp;repeat first|(refine r_ ?_;simp[Qn k1])|refine q_ ?_
  refine Ql rfl (fun _=> ?_) (fun h=>by simp at h;exact absurd h he);have k2:∀L Y,((H'++L).set 1 Y)[1]? =some Y:=fun L Y=>Qz (Qn k1 L) Y;repeat first|(refine r_ ?_;simp[Qn k1,k2])|refine q_ ?_
  exact⟨rfl,rfl,rfl⟩
 ·obtain⟨zn,cl,Q,x5,vp,xw,z8,zd,zo⟩:=C4 he;have hd:Ro a=x08 (Y0 a cl Q):=by rw[Ro,x5];simp
  rw[hd];rw[x5]at ht;simp only at ht;have k0:=hk 0 (by simp);have k1:=hk 1 (by simp);simp at k0 k1;have xx:=ht.t;have vq:=ht.s;simp;repeat first|(refine r_ ?_;simp[Qn k1])|refine q_ ?_
  refine Ql rfl (fun h=>by simp[he]at h) (fun _=> ?_);have k0a:∀(L:List AObj) hh,(H'++L)[0]'hh= .vars (Q0 a):=fun L hh=>by have:=Qn k0 L;rw[zD hh]at this;exact Option.some.inj this
  have ye:=fun L=>Qn (G:=L) xx;repeat first|(refine r_ ?_;simp[Qn k0,k0a,ye])|refine q_ ?_
  have xy:=Qt ht.t;have xz:=Qt ht.s;have w8:=Qt ht.n;refine Wd (sl':=[(1,.vptr 0 0),(2,.vptr 1 0),(3,.i 0),(4,.vptr H'.length 0),(6,.vptr (H'.length+1) 0),(30,.sl p 1 0 Q.length),(31,.i Q.length),(32,.i (0:Nat))]) ?_ (by simp);refine E3 (H'.length+1) 1 4 1 (xs:=[.i a.types,.nils,.nils]) (by rw[zC (by omega)];simp) rfl ?_;refine Ex fun Z1 zp=> ?_;have z1l:Z1.length=H'.length+3:=by rw[zp];simp
  have z1c:Z1[H'.length+1]? =some (.vars [.i a.types,.sl (H'.length+2) 1 0 0,.nils]):=by rw[zp,zH (by simp)];simp
  have z1f:Z1[H'.length+2]? =some (.arr 4 1 []):=by rw[zp,zB (by omega),zC (by simp)];simp
  have z1b:Z1[H'.length]? =some (.vars [.vptr r 0]):=by rw[zp,zB (by omega),xT,zC (by omega)];simp
  have z1k:∀i,i<H'.length→Z1[i]? =H'[i]? :=fun i hi=>by rw[zp,zB (by omega),xT,zE hi]
  clear zp;refine E3 (H'.length+1) 2 73 3 z1c rfl ?_;refine Ex fun Z2 y6=> ?_;have z2c:Z2[H'.length+1]? =some (.vars [.i a.types,.sl (H'.length+2) 1 0 0,.sl (H'.length+3) 3 0 0]):=by rw[y6,zH (by simp;omega)];simp[z1l]
  have z2v:Z2[H'.length+3]? =some (.arr 73 3 []):=by rw[y6,zB (by omega),zC (by omega)];simp[z1l]
  have z2k:∀i,i<Z1.length→i≠H'.length+1→Z2[i]? =Z1[i]? :=fun i hi wa=>by rw[y6,zB (Ne.symm wa),zE hi]
  clear y6;have hb:=(z2k _ (by omega) (by omega)).trans z1b;have x6:=(z2k _ (by omega) (by omega)).trans z1f;have hold:∀i,i<H'.length→Z2[i]? =H'[i]? :=fun i hi=>(z2k i (by omega) (by omega)).trans (z1k i hi);have x7:=(hold 0 (Qt k0)).trans k0;have x8:=(hold 1 (Qt k1)).trans k1;obtain⟨zh,z7⟩:∃zh:List (Nat×AObj),zh=[(0,.vars (Q0 a)),(1,.vars [.i 0,.nils,.nils]),(H'.length,.vars [.vptr r 0]),(r,.vars [.i a.types,.list (a.fin.map .bool),.list (a.mv.map encMv),LP cl,.sl p 1 0 Q.length,.mref m]),(p,.arr 47 1 (LQ Q)),(m,mpT (Q.map Tc))]:=⟨_,rfl⟩
  have x9:Fx zh Z2:=by
   rw[z7];intro x hx;simp only[zU,vL,or_false]at hx;rcases hx with rfl|rfl|rfl|rfl|rfl|rfl
   ·exact x7
   ·exact x8
   ·exact hb
   ·exact(hold r xy).trans ht.t
   ·exact(hold p xz).trans ht.s
   ·exact(hold m w8).trans ht.n
  have wb:=z8.lim;have xa:∀x∈Q,Az x:=fun x hx=>by have he:=z8.elem x hx;have:=Zl he.1 he.2;have:=zn.fin;exact⟨z8.ne x hx,by omega,fun z hz=>by have:=he.2 z hz;omega⟩
  have we:=zn.fin;generalize H'.length+1=c at *;generalize H'.length=b at *;refine Qx (Qm (sl':=[(1,.vptr 0 0),(2,.vptr 1 0),(3,.i 0),(4,.vptr b 0),(6,.vptr c 0),(30,.sl p 1 0 Q.length),(31,.i Q.length),(32,.i (0:Nat))]) ?_ (by simp))
  refine Qw (F:=fun(u:Nat×Nat×Nat×List AObj)=>⟨[(1,.vptr 0 0),(2,.vptr 1 0),(3,.i 0),(4,.vptr b 0),(6,.vptr c 0),(30,.sl p 1 0 Q.length),(31,.i Q.length),(32,.i u.1)],u.2.2.2⟩)
   (fun u=>u.1≤Q.length∧Fx zh u.2.2.2∧u.2.2.2[c]? =some (.vars [.i a.types,.sl u.2.1 1 0 u.1,.sl u.2.2.1 3 0 (Y7 a cl Q u.1).length])∧u.2.2.2[u.2.1]? =some (.arr 4 1 (((Q.take u.1).map (Tk a)).map .bool))∧u.2.2.2[u.2.2.1]? =some (.arr 73 3 ((Y7 a cl Q u.1).map encMv))) (fun u=>Q.length - u.1) ?_ (0,_,_,Z2) ⟨by simp,x9,by rw[Pw];exact z2c,by simpa using x6,by rw[Pw];exact z2v⟩
  clear x9 z2c x6 z2v hb x7 x8 hold z2k z1k z1b z1f z1c z1l;clear Z2 Z1;rintro⟨n,f,v,G⟩ ⟨hn,hF,gc,gf,gv⟩ ih;simp only at hn hF gc gf gv ih ⊢;repeat first|(refine r_ ?_;simp)|refine q_ ?_
  refine Ql rfl (fun wg=> ?_) (fun y8=> ?_)
  ·have ze:n<Q.length:=by simpa using wg
   have hw:IntKind.i64.wrap ((n:Int)+1)=n+1:=wrap_i64 _ (by omega) (by omega);have gs:G[p]? =some (.arr 47 1 (LQ Q)):=hF (p,_) (by rw[z7];simp);repeat first|(refine r_ ?_;simp[gs,ze])|refine q_ ?_
   have xb:=zG ze;have hle:=z8.elem _ xb;have wh:Q.getD n []=Q[n]:=by simp[yQ,ze]
   have xc:=Hx a cl Q n;have wi:(Q.take (n+1)).map (Tk a)=(Q.take n).map (Tk a)++[Tk a Q[n]]:=by rw[zL ze,yG];rfl
   rw[wh]at xc;have wj:=(w0v a cl Q (z8.lim) zd n ze).2;have zq:=z8.closed _ xb;have vr:=Zl hle.1 hle.2;have wk:=fun L=>Qn (G:=L) gc;have g0:∀L,(G++L)[0]? =some (.vars (Q0 a)):=fun L=>Qn (hF (0,_) (by rw[z7];simp)) L;have wm:((Q.take n).map (Tk a)).length=n:=by simp;omega
   generalize Q[n]=l at *
   have wF:=hF.app [.vars [.i n]];have wc:=Qn gc [.vars [.i n]];have wf:=Qn gf [.vars [.i n]];have wv:=Qn gv [.vars [.i n]];have w7:(G++[AObj.vars [.i n]])[G.length]? =some (.vars [.i n]):=by simp
   have w0:=g0 [.vars [.i n]];refine Wd (sl':=[(1,.vptr 0 0),(2,.vptr 1 0),(3,.i 0),(4,.vptr b 0),(6,.vptr c 0),(7,.vptr G.length 0),(8,LI l),(30,.sl p 1 0 Q.length),(31,.i Q.length),(32,.i n)]) ?_ (by simp);generalize G.length=n7 at *;generalize G++[AObj.vars [.i n]]=W at *;clear g0 wk gs gc gf gv hF;clear G
   have yf:((Q.take (n+1)).map (Tk a)).map AV.bool=((Q.take n).map (Tk a)).map AV.bool++[.bool (Tk a l)]:=by rw[wi];simp
   have xd:(((Q.take n).map (Tk a)).map AV.bool).length=n:=by rw[zV];exact wm
   generalize ((Q.take n).map (Tk a)).map AV.bool=xs at *
   have zr:c≠f:=fun e=>by rw[e,wf]at wc;simp at wc
   have yg:c≠v:=fun e=>by rw[e,wv]at wc;simp at wc
   have zt:f≠v:=fun e=>by rw[e,wv]at wf;simp at wf
   have xe:c≠n7:=fun e=>by rw[e,w7]at wc;simp at wc
   have xf:f≠n7:=fun e=>by rw[e,w7]at wf;simp at wf
   have z6:∀p∈zh,p.2≠ .vars [.i a.types,.sl f 1 0 n,.sl v 3 0 (Y7 a cl Q n).length]:=by rw[z7];simp[Rb]
   have zu:∀p∈zh,p.2≠ .arr 4 1 xs:=by rw[z7];simp[Rb]
   have wo:=Qt wc;have wq:=Qt wf;have zv:=Qt wv;have xg:=Qt w7;have xh:=wF.set wf zu .dead;have ya:∀L,(W.set f .dead++L)[c]? =some (.vars [.i a.types,.sl f 1 0 n,.sl v 3 0 (Y7 a cl Q n).length]):=fun L=>Qn (Qr (Ne.symm zr) wc _) L;refine u0u (P:=Tryz.prog) tOk mixed [4,6,8] (.val 0 (.val 2 (.val 3 (.two 1 (.one 4 (.one 5 (.one 6 (.val 7 (.one 8 (.done)))))) 4 (.val 1 (.one 5 (.one 6 (.val 7 (.one 8 (.done)))))))))) (fun S'=>∃f',Fx zh S'.hp∧S'.hp[n7]? =some (.vars [.i n])∧S'.hp[c]? =some (.vars [.i a.types,.sl f' 1 0 (n+1),.sl v 3 0 (Y7 a cl Q n).length])∧S'.hp[f']? =some (.arr 4 1 (xs++[.bool (Tk a l)]))∧S'.hp[v]? =some (.arr 73 3 ((Y7 a cl Q n).map encMv))∧look S'.sl 1=some (.vptr 0 0)∧look S'.sl 2=some (.vptr 1 0)∧look S'.sl 3=some (.i 0)∧look S'.sl 4=some (.vptr b 0)∧look S'.sl 6=some (.vptr c 0)∧look S'.sl 7=some (.vptr n7 0)∧look S'.sl 8=some (LI l)∧look S'.sl 30=some (.sl p 1 0 Q.length)∧look S'.sl 31=some (.i Q.length)∧look S'.sl 32=some (.i n)) rfl (by kernel_rfl) ?_ ?_
   ·simp[wc];refine⟨?_,?_⟩;all_goals
     refine Wo rfl rfl (Va W l 48 (.vptr 0 0) (fun s=>a.fin.getD s.toNat false) (by omega) (fun z hz=>v1b W 0 a w0 z (hle.2 z hz).1 (hle.2 z hz).2)) rfl ?_;rintro _ H2 ⟨rfl,wu⟩;rw[wu];have wx:l.any (fun s=>a.fin.getD s.toNat false)=Tk a l:=by unfold Tk;rfl
     rw[wx];simp[wc];refine Qq tOk rfl rfl T22 rfl T4 rfl (by decide) (by decide) rfl rfl rfl ?_;simp[Qn wf,Qu wf,xd,ya,Qn wc];refine⟨by simp[W4,Qn wf,Qu wf,xd,ya,Qn wc]<;>omega,?_⟩;refine⟨?_,?_,W.length+1,?_,?_,?_⟩
     ·exact(xh.app _).set (ya _) z6 _
     ·rw[zB xe,zE (by simpa using xg),zB xf];exact w7
     ·rw[zH (by simp;omega)]
     ·rw[zB (by omega),zC (by simp)];simp
     ·rw[zB yg,zE (by simpa using zv),zB zt];exact wv
   ·rintro⟨sl,E⟩ ⟨f',eF,e7,ec,ef,ev,s1,s2,s3,s4,s6,s7,s8,s30,s31,s32⟩;simp only at eF e7 ec ef ev s1 s2 s3 s4 s6 s7 s8 s30 s31 s32;refine Wd (sl':=[(1,.vptr 0 0),(2,.vptr 1 0),(3,.i 0),(4,.vptr b 0),(6,.vptr c 0),(7,.vptr n7 0),(8,LI l),(30,.sl p 1 0 Q.length),(31,.i Q.length),(32,.i n)]) ?_ (by simp[s1,s2,s3,s4,s6,s7,s8,s30,s31,s32]);clear s1 s2 s3 s4 s6 s7 s8 s30 s31 s32 xh ya z6 zu wo wq zv xg zr yg zt xe xf w0 w7 wv wf wc wF;have eb:E[b]? =some (.vars [.vptr r 0]):=eF (b,_) (by rw[z7];simp);repeat first|(refine r_ ?_;simp[ec,Qn eb])|refine q_ ?_
    have yh:∀g c,Q6 a l (Qv c)=[]→stepG a Q n l g c=g:=fun g c hx=>z1z z8.ne hx;have yi:∀g c t,Q[t]? =some (Q6 a l (Qv c))→stepG a Q n l g c=Yo n g t c:=fun g c t hx=>v0r z8.nd hx;have xi:=fun k c hc=>G5 a cl Q n l (k:=k) (c:=c) hc;have wy:=fun k=>Py a cl Q n l zd k;have xj:Eg a cl Q n l 0=[]:=S0 a cl Q n l;have wz:=P9 a cl Q n l;have v7:∀k,∀m∈Eg a cl Q n l k,PWf a.types.toNat m.on:=Mr (fun c hc=>(zo c hc).2.2.2.1);have v8:∀k,∀m∈Eg a cl Q n l k,∀s∈m.on,s.length≤65536:=q06 (fun c hc=>(zo c hc).2.2.2.2) zd;have xk:=fun f v G=>ih (n+1,f,v,G);simp only[xc,←wz,yf]at xk;clear ih;generalize Y7 a cl Q n=pre at *;refine Wo rfl rfl (P1 _ r l) rfl ?_
    rintro _ _ ⟨rfl,rfl⟩;simp;repeat first|(refine r_ ?_;simp)|refine q_ ?_
    obtain⟨zg,z6⟩:∃zg:List (Nat×AObj),zg=zh++[(n7,.vars [.i n]),(E.length,.vars [.i pre.length]),(E.length+1,.vars [.vptr r 0]),(E.length+2,.vars [LI l]),(f',.arr 4 1 (xs++[.bool (Tk a l)]))]:=⟨_,rfl⟩
    refine Rk rfl (Rf:=fun _ H'=>∃v,Fx zg H'∧H'[c]? =some (.vars [.i a.types,.sl f' 1 0 (n+1),.sl v 3 0 (pre++Eg a cl Q n l cl.length).length])∧H'[v]? =some (.arr 73 3 ((pre++Eg a cl Q n l cl.length).map encMv))∧∃sl' ps' a' b',H'[E.length+3]? =some (.lp true none 100 sl' ps' a' b')) ?_ ?_
    ·simp;refine Kb fun H1 zw=> ?_;have vb:Fx zg H1:=by
      rw[z6,zw];intro x hx;rcases zO.1 hx with hx|hx
      ·exact(eF.app _) x hx
      ·simp only[zU,vL,or_false]at hx;rcases hx with rfl|rfl|rfl|rfl|rfl
       ·exact Qn e7 _
       ·rw[zC (by simp)];simp
       ·rw[zC (by simp)];simp
       ·rw[zC (by simp)];simp
       ·exact Qn ef _
     have fc:H1[c]? =some (.vars [.i a.types,.sl f' 1 0 (n+1),.sl v 3 0 pre.length]):=by rw[zw];exact Qn ec _
     have fv:H1[v]? =some (.arr 73 3 (pre.map encMv)):=by rw[zw];exact Qn ev _
     have fq:=congrArg (fun h:List AObj=>h[E.length+3]?) zw;simp at fq;clear zw;refine FC.mono (q0y a zn cl l (fun c hc=>⟨(zo c hc).1,(zo c hc).2.1,(zo c hc).2.2.1⟩) zd (E.length+3) (E.length+1) (E.length+2) r (by rfl) (by rfl)
      (fun k H'=>∃v,Fx zg H'∧H'[c]? =some (.vars [.i a.types,.sl f' 1 0 (n+1),.sl v 3 0 (pre++Eg a cl Q n l k).length])∧H'[v]? =some (.arr 73 3 ((pre++Eg a cl Q n l k).map encMv))∧H'[E.length+3]? =H1[E.length+3]?)
      (fun k H' ⟨v',h1,h2,h3,h4⟩=>⟨h4.trans fq,h1 (E.length+1,_) (by rw[z6];simp),h1 (E.length+2,_) (by rw[z6];simp),[.sl p 1 0 Q.length,.mref m],h1 (r,_) (by rw[z6,z7];simp)⟩) ?_ ?_ ?_ H1 ⟨v,vb,by rw[xj,xV];exact fc,by rw[xj,xV];exact fv,rfl⟩) ?_
     ·rintro k H' L ⟨v',h1,h2,h3,h4⟩;exact⟨v',h1.app L,Qn h2 L,Qn h3 L,by rw[←h4,zE (by rw[fq]at h4;exact Qt h4)]⟩
     ·rintro k cc H' hc yj ⟨v',h1,h2,h3,h4⟩;have:=yh (Eg a cl Q n l k) cc yj;rw[←xi k cc hc]at this;exact⟨v',h1,by rw[this];exact h2,by rw[this];exact h3,h4⟩
     ·rintro k cc H' hc yj ⟨v',h1,h2,h3,h4⟩;rw[xi k cc hc];have zx:=zF hc;have yk:Q6 a l (Qv cc)∈Q:=(zq cc zx).resolve_left yj;have yl:=yi (Eg a cl Q n l k) cc;have vc:=wy k;have zj:=v7 k;have ym:=v8 k;have zi:=zo cc zx;generalize Q6 a l (Qv cc)=nx at *;generalize stepG a Q n l (Eg a cl Q n l k) cc=g2 at *;generalize Eg a cl Q n l k=g at *
      simp[Tx];have h8:=h4.trans fq;obtain⟨LP0,zk⟩:∃LP0,H1[E.length+3]? =some LP0:=⟨_,fq⟩
      have za:LP0.isLp=true:=by rw[fq]at zk;injection zk with e;rw[←e];rfl
      have zb:H'[E.length+3]? =some LP0:=h4.trans zk;have yn:∀p∈zg,p.2≠LP0:=fun p hp e=>by rw[←e]at za;rw[z6,z7]at hp;simp only[zO,zU,vL,or_false]at hp;rcases hp with(rfl|rfl|rfl|rfl|rfl|rfl)|(rfl|rfl|rfl|rfl|rfl)<;>simp[AObj.isLp,Rb]at za
      have y1:=h1.set zb yn .dead;have yo:E.length+3≠c:=fun e=>by rw[e,h2]at zb;injection zb with e2;rw[←e2]at za;simp[AObj.isLp]at za
      have yp:E.length+3≠v':=fun e=>by rw[e,h3]at zb;injection zb with e2;rw[←e2]at za;simp[AObj.isLp]at za
      have y2:=Qr yo h2 .dead;have y3:=Qr yp h3 .dead;have y4:=Qz zb .dead;generalize H'.set (E.length+3) .dead=Y at *
      have yb:Y[b]? =some (.vars [.vptr r 0]):=y1 (b,_) (by rw[z6,z7];simp);have y0:Y[0]? =some (.vars (Q0 a)):=y1 (0,_) (by rw[z6,z7];simp);have y7:Y[n7]? =some (.vars [.i n]):=y1 (n7,_) (by rw[z6];simp);have y9:Y[E.length]? =some (.vars [.i pre.length]):=y1 (E.length,_) (by rw[z6];simp);have yt:TB r p m a cl Q Y:=⟨y1 (r,_) (by rw[z6,z7];simp),y1 (p,_) (by rw[z6,z7];simp),y1 (m,_) (by rw[z6,z7];simp)⟩
      repeat first|(refine r_ ?_;simp[Qn yb])|refine q_ ?_
      refine Wo rfl rfl (Bx _ r p m a cl Q nx (yt.keep fun j hj=> ?_) (xa nx yk) xa (by omega)) rfl ?_
      ·have:j<Y.length:=by
        rcases hj with rfl|rfl|rfl
        ·exact Qt yt.t
        ·exact Qt yt.s
        ·exact Qt yt.n
       exact zE this
      rintro res Z ⟨t,p2,rfl,xl,-,-,-,hZ,-⟩;rw[hZ yk];have yq:v0e Q nx=Q:=by rw[v0e,if_pos yk]
      rw[yq]at xl;rw[yl t xl];clear hZ;simp;repeat first|(refine r_ ?_;simp[Qn y2,Qn y9])|refine q_ ?_
      have xm:∀M,(Y++M)[v']? =some (.arr 73 3 ((pre++g).map encMv)):=fun M=>Qn y3 M;refine Wo rfl rfl (f0g (Y++[AObj.vars [.list (cc.map encL)],.vars [.i t]]) v' pre.length t (Y.length+1) pre g (by rw[zC (by omega)];simp) (xm _) (by omega) rfl) rfl ?_;rintro _ _ ⟨rfl,L,rfl⟩;simp;repeat first|(refine r_ ?_;simp)|refine q_ ?_
      have w1:=y1.app ([AObj.vars [.list (cc.map encL)],.vars [.i t]]++L);have w2:=Qn y2 ([AObj.vars [.list (cc.map encL)],.vars [.i t]]++L);have w3:=xm ([AObj.vars [.list (cc.map encL)],.vars [.i t]]++L);have w4:=Qn y4 ([AObj.vars [.list (cc.map encL)],.vars [.i t]]++L);have w5:(Y++([AObj.vars [.list (cc.map encL)],.vars [.i t]]++L))[Y.length]? =some (.vars [.list (cc.map encL)]):=by rw[zC (by omega)];simp
      have w6:(Y++([AObj.vars [.list (cc.map encL)],.vars [.i t]]++L))[Y.length+1]? =some (.vars [.i t]):=by rw[zC (by omega)];simp
      have w7:=Qn y7 ([AObj.vars [.list (cc.map encL)],.vars [.i t]]++L);have w0:=Qn y0 ([AObj.vars [.list (cc.map encL)],.vars [.i t]]++L);have w9:=Qn y9 ([AObj.vars [.list (cc.map encL)],.vars [.i t]]++L);have xn:((a.types.toNat:Nat):Int)=a.types:=by have:=zn.types;omega
      simp only[List.cons_append,xP]at w0 w1 w2 w3 w4 w5 w6 w7 w9;generalize Y++AObj.vars [.list (cc.map encL)]::AObj.vars [.i t]::L=W at *;generalize Y.length+1=i12 at *;generalize Y.length=i10 at *
      have xo:∀p∈zg,p.2≠ .dead:=by rw[z6,z7];simp[Rb]
      have yr:∀p∈zg,p.2≠ .vars [.i a.types,.sl f' 1 0 (n+1),.sl v' 3 0 (pre.length+g.length)]:=by rw[z6,z7];simp[Rb]
      have zy:∀p∈zg,p.2≠ .arr 73 3 ((pre++g).map encMv):=by rw[z6,z7];simp[Rb]
      rw[zW]at w2;have xp:v'≠c:=fun e=>by rw[e,w2]at w3;simp at w3
      have yu:v'≠E.length+3:=fun e=>by rw[e,w4]at w3;simp at w3
      have yv:c≠E.length+3:=fun e=>by rw[e,w4]at w2;simp at w2
      have lc:=Qt w2;have lv:=Qt w3;have lq:=Qt w4;refine Wd (sl':=[(1,.vptr 0 0),(6,.vptr c 0),(7,.vptr n7 0),(9,.vptr E.length 0),(10,.vptr i10 0),(12,.vptr i12 0),(13,.i (f0d g t)),(63,.bool (decide (f0d g t<0)))]) ?_ (by simp);cases hfi:g.findIdx? fun m:Mv=>decide (m.dst=(t:Int))with
      |none=>
       have yw:f0d g t= -1:=by rw[f0d,hfi]
       have zl:Yo n g t cc=g++[⟨n,t,cc⟩]:=by rw[Yo,hfi]
       rw[yw,zl];refine Q1 rfl ?_;simp;repeat first|(refine r_ ?_;simp)|refine q_ ?_
       refine Qy tOk mixed [11,13] (.val 0 (.val 1 (.val 2 (.val 3 (.val 4 (.val 5 (.val 6 (.one 7 (.one 8 (.val 9 (.one 10 (.one 11 (.val 12 (.one 13 (.done))))))))))))))) rfl (by kernel_rfl) ?_;simp[w0,w2,w5,w6,w7];refine Wj W.length (e:=70) (c:=1) (xs:=[encP cc]) (by simp) ?_;simp;have xq:=Ms a.types.toNat [cc] (by have:=zn.types;omega) (fun p hp=>by rw[zJ.1 hp];exact zi.2.2.2.1) (fun j hj=>j1y zi.2.2.2.1 zi.2.2.2.2 hj) (by simp);rw[xn,u1n zi.2.2.2.1]at xq;refine Qo rfl rfl (by simp) (xq) rfl ?_;rintro _ rfl;simp;have w2b:∀M,(W++M)[c]? =some (.vars [.i a.types,.sl f' 1 0 (n+1),.sl v' 3 0 (pre.length+g.length)]):=fun M=>Qn w2 M;have w2c:∀M,(W.set v' .dead++M)[c]? =some (.vars [.i a.types,.sl f' 1 0 (n+1),.sl v' 3 0 (pre.length+g.length)]):=fun M=>Qn (Qr xp w2 _) M;have zv:((pre++g).map encMv).length=pre.length+g.length:=by simp
       have vd:=(w1.set w3 zy .dead)
       generalize yx:(pre++g).map encMv=mm at *;refine Qq tOk rfl rfl T23 rfl T73 rfl (by decide) (by decide) rfl rfl rfl ?_
       simp[Qn w3,Qu w3,w2b,w2c,zv];refine⟨by simp[W4,Qn w3,Qu w3,w2b,w2c,zv]<;>omega,?_⟩;repeat first|(refine r_ ?_;simp)|refine q_ ?_
       have zm:((W.set v' AObj.dead++[AObj.dead,AObj.arr 73 3 [.agg [.i n,.i t,.list (cc.map encL)]],AObj.arr 73 3 (mm++[.agg [.i n,.i t,.list (cc.map encL)]])]).set c (AObj.vars [.i a.types,.sl f' 1 0 (n+1),.sl (W.length+2) 3 0 (pre.length+g.length+1)]))[E.length+3]? =some .dead:=by rw[zB yv,zE (by simpa using lq),zB yu];exact w4
       refine⟨zm,rfl,((vd.app _).set (w2c _) yr _).set zm xo _,W.length+2,?_,?_,?_⟩
       ·rw[zB (Ne.symm yv),zH (by simp;omega)];simp[Nat.add_assoc]
       ·rw[zB (by omega),zB (by omega),zC (by simp)];rw[←yx];simp
       ·rw[fq,zH (Qt zm)]
      |some i=>
       have yw:f0d g t=i:=by rw[f0d,hfi]
       obtain⟨xr,hid,-⟩:=xS.1 hfi;have xt:g[i]? =some g[i]:=zD xr;have zl:Yo n g t cc=g.set i { g[i]with on:=W9 g[i].on cc }:=by rw[Yo,hfi];simp[xt]
       rw[yw,zl];refine Ql rfl (fun h=>by simp at h;omega) (fun _=> ?_);have ve:IntKind.i64.wrap ((pre.length:Int)+i)=pre.length+i:=wrap_i64 _ (by omega) (by omega);have yy:(pre.length:Int)+i<pre.length+g.length:=by omega
       have vf:(0:Int)≤(pre.length:Int)+i:=by omega
       have vg:((pre.length:Int)+i).toNat=pre.length+i:=by omega
       repeat first|(refine r_ ?_;simp[w2,w9,ve,yy,vf,vg])|refine q_ ?_
       have y8:((pre++g).map encMv)[pre.length+i]? =some (.agg [.i g[i].src,.i g[i].dst,.list (g[i].on.map encL)]):=by rw[yG,zC (by simp)];simp[xt]
       have yz:((pre++g).map encMv).length=pre.length+g.length:=by simp
       generalize yx:(pre++g).map encMv=mm at *
       have x0:yA 2=[0,1]:=rfl;refine Qy tOk mixed [12] (.val 0 (.val 1 (.val 2 (.val 3 (.val 4 (.val 5 (.val 6 (.val 7 (.one 8 (.one 9 (.val 10 (.val 11 (.one 12 (.done)))))))))))))) rfl (by kernel_rfl) ?_;simp[w0,w3,w5,y8,yz,x0];refine Wj W.length (e:=70) (c:=1) (xs:=[encP g[i].on,encP cc]) (by simp) ?_;simp;have yc:=zG xr;have xu:=Ms a.types.toNat [g[i].on,cc] (by have:=zn.types;omega) (fun p hp=>by
        simp only[zU,vL,or_false]at hp;rcases hp with rfl|rfl
        ·exact zj _ yc
        ·exact zi.2.2.2.1) (fun j hj=>u1z (zj _ yc) zi.2.2.2.1 (ym _ yc) zi.2.2.2.2 hj) (by simp)
       rw[xn,v1t (zj _ yc) zi.2.2.2.1]at xu;have w3b:∀M,(W++M)[v']? =some (.arr 73 3 mm):=fun M=>Qn w3 M;refine Qo rfl rfl (by simp) (xu) rfl ?_;rintro _ rfl;simp[w3b,y8,Qu w3];repeat first|(refine r_ ?_;simp)|refine q_ ?_
       have zm:(W.set v' (AObj.arr 73 3 (mm.set (pre.length+i) (.agg [.i g[i].src,.i g[i].dst,.list ((W9 g[i].on cc).map encL)])))++[AObj.dead])[E.length+3]? =some .dead:=by rw[zE (by simpa using lq),zB yu];exact w4
       refine⟨zm,rfl,(((w1.set w3 zy _).app _).set zm xo _),v',?_,?_,?_⟩
       ·rw[zB (Ne.symm yv),zE (by simpa using lc),zB xp];rw[w2]
       ·rw[zB (Ne.symm yu),zE (by simpa using lv),zH lv];rw[←yx,yG,List.set_append_right _ _ (by simp)];simp[u_]
       ·rw[fq,zH (Qt zm)]
     ·rintro _ H' ⟨v',h1,h2,h3,h4⟩;exact⟨h1,v',by simpa using h2,by simpa using h3,_,_,_,_,h4.trans fq⟩
    ·rintro res H' ⟨v',h1,h2,h3,⟨sl',ps',a',b',h6⟩⟩;refine⟨true,none,100,sl',ps',a',b',by simpa using h6,?_⟩;simp;have yo:E.length+3≠c:=fun e=>by rw[e,h2]at h6;simp at h6
     have yp:E.length+3≠v':=fun e=>by rw[e,h3]at h6;simp at h6
     have y1:=h1.set h6 (by rw[z6,z7];simp[Rb]) .dead;have y2:=Qr yo h2 .dead;have y3:=Qr yp h3 .dead;generalize H'.set (E.length+3) .dead=Y at *
     repeat first|(refine r_ ?_;simp[hw])|refine q_ ?_
     refine Qm (sl':=[(1,.vptr 0 0),(2,.vptr 1 0),(3,.i 0),(4,.vptr b 0),(6,.vptr c 0),(30,.sl p 1 0 Q.length),(31,.i Q.length),(32,.i (n+1:Nat))]) ?_ (by simp);refine xk f' v' Y ⟨by omega,fun x hx=>y1 x (by rw[z6];exact xC _ hx),y2,y1 (f',_) (by rw[z6];simp),y3⟩ (by omega)
  ·have x2:n=Q.length:=by simp at y8;omega
   subst x2;have zz:Y7 a cl Q Q.length=(Y0 a cl Q).mv:=w0m a cl Q;have x3:(Q.take Q.length).map (Tk a)=(Y0 a cl Q).fin:=by rw[zZ];exact(D9 a cl Q).symm
   have vh:(Y0 a cl Q).fin.length=Q.length:=by rw[D9];simp
   have vi:(Y0 a cl Q).mv.length≤65536:=by rw[←zz];exact d0d a cl Q wb zd
   rw[zz]at gc gv;rw[x3]at gf;rw[←vh]at gc;have vj:(Y0 a cl Q).types=a.types:=J0 a cl Q;have yy:x08 (Y0 a cl Q)=if Z6 (Y0 a cl Q)then(5,Oz)else(0,Y0 a cl Q):=q0f _
   rw[yy];generalize Y0 a cl Q=d at *
   have g1:G[1]? =some (.vars [.i 0,.nils,.nils]):=hF (1,_) (by rw[z7];simp);have yg:v≠c:=fun e=>by rw[e,gc]at gv;simp at gv
   have zt:f≠v:=fun e=>by rw[e,gv]at gf;simp at gf
   have yd:f≠c:=fun e=>by rw[e,gc]at gf;simp at gf
   have vk:f≠1:=fun e=>by rw[e,g1]at gf;simp at gf
   have vl:v≠1:=fun e=>by rw[e,g1]at gv;simp at gv
   have vm:c≠1:=fun e=>by rw[e,g1]at gc;simp at gc
   refine Wd (sl':=[(2,.vptr 1 0),(3,.i 0),(6,.vptr c 0)]) ?_ (by simp);refine Wu v gv c gc ?_;simp[zt];rw[zI (by simp)];have x4:=Qt gc;have vn:=Qt gf;refine Ex fun Z hZ=> ?_;have zc:Z[c]? =some (.vars [.i d.types,.sl f 1 0 d.fin.length,.list (d.mv.map encMv)]):=by rw[hZ,vj];exact zH (by simpa using x4)
   have zf:Z[f]? =some (.arr 4 1 (d.fin.map .bool)):=by rw[hZ,zB (Ne.symm yd),zB (Ne.symm zt)];exact gf
   have z1:Z[1]? =some (.vars [.i 0,.nils,.nils]):=by rw[hZ,zB vm,zB vl];exact g1
   clear hZ;repeat first|(refine r_ ?_;simp[zc])|refine q_ ?_
   refine Wo rfl rfl (Bc Z f d zf (by omega) (by omega)) rfl ?_;rintro res Y ⟨hr,xv⟩;have y5:=(xv 1 (Qt z1)).trans z1;have vo:=(xv f (Qt zf)).trans zf;have x0:∀X,(Y.set 1 X)[1]? =some X:=fun X=>Qz y5 X;rcases hr with⟨hb,rfl⟩|⟨hb,rfl⟩
   ·rw[hb];simp[y5];repeat first|(refine r_ ?_;simp[x0])|refine q_ ?_
    exact⟨rfl,rfl,rfl⟩
   ·rw[hb];simp[y5];refine Wd (sl':=[(2,.vptr 1 0),(3,.i 0)]) ?_ (by simp);refine Wu f (Qr (Ne.symm vk) vo _) 1 (Qz y5 _) ?_;simp;rw[zI (by simp)];refine Ex fun X hX=> ?_;have x1:X[1]? =some (.vars [.i d.types,.list (d.fin.map .bool),.list (d.mv.map encMv)]):=by rw[hX];exact zH (by have:=Qt y5;simpa using this)
    repeat first|(refine r_ ?_;simp[x1])|refine q_ ?_
end Go.Abs
namespace Go.Abs
open Go Go.Proofs Go.Maps Go.RowKit
def z2d(l:List Bool)(i:Nat):List Bool:=l.mapIdx fun k b=>if k<i then !b else b
attribute [local irreducible] Ro v0b z2d
end Go.Abs
namespace Go.Abs
open Go Go.Proofs Go.Maps Go.RowKit
attribute [local irreducible] Wx
attribute [local irreducible] v0b Vu x06 D4 y21 z1e Wt
end Go.Abs
namespace Go.Abs
open Go Go.Proofs Go.Maps Go.RowKit
theorem z0w{c p:Prd}(h:c.length=p.length):(yA c.length).map (fun i=>Eo (c.getD i []++p.getD i []))=W9 c p:=by
 refine xQ (by simp[W9,h]) fun i h1 h2=> ?_;have hc:i<c.length:=by simpa using h1
 have hp:i<p.length:=by omega
 simp[W9,yQ,hc,hp]
theorem GL.putL{K G:List AObj}{S p:Nat}{pre post:List AV}{e sz:Nat}{xs:List AV}(h:GL K G S p pre post e sz xs)(L:List AObj)(y:AV){n:Nat}(hn:n=xs.length):
  GL K ((G.set p .dead++(L++[AObj.arr e sz (xs++[y])])).set S (.vars (pre++ .sl (G.length+L.length) sz 0 (n+1)::post))) S (G.length+L.length) pre post e sz (xs++[y]):=by
 subst hn;have hl:=h.lt;have hg:=h.ge;have hn:=h.len;refine⟨?_,?_,by omega,hl,by simp;omega,fun j hj z1=> ?_⟩
 ·rw[zH (by simp;omega)];simp
 ·rw[zB (by omega),←xT,zC (by simp)];simp
 ·rw[zB (fun e=>z1 e.symm),zE (by simp;omega),zB (by omega)];exact h.keep j hj z1
section
variable {P:Program} [Env P] {T:TT} {nt k:Nat} {S:AS}
theorem Gq (hT:TOk P T) (hm:P.follows .mixedOrders=true) {Q:Exit→AS→Prop} {id:Nat} {l:List Oper} (Wr:List Nat) (p:PlanM) (Ph:AS→Prop) (hd:Uh nt l=true)
  (hp:(Region.noSelect l.toArray && p.size==l.length && Y5 l.toArray (Uz l []) Wr p (Array.replicate l.length false))=true)
  (h:Ur P T nt k l.toArray Wr.contains Ph p S) (hn:∀S',Ph S'→Q .normal S'):AWP P nt k (.region id l.toArray true) Q S:=
 (G7 (Q:=fun e S=>e= .normal∧Ph S) hT hm Wr p hd hp (Er (fun _ h=>⟨rfl,h⟩) p S h)).mono fun e S ⟨he,hr⟩=>by subst he;exact hn S hr
end
attribute [local irreducible] Eo upL
theorem N7(T:Nat)(c p:Prd)(hc:PWf T c)(hp:PWf T p)(zc:∀s∈c,∀t∈p,s.length+t.length≤1000000000)(hT:T≤1000):PC Tryz.prog 214 [encP c,encP p] (fun r=>r=encP (W9 c p)):=by
 refine Qs tOk Tryz.func214 rfl Tryz.results214 rfl (by simp[Tryz.ntmps214]) ?_;rw[Tryz.ntmps214];simp only[Qp];simp only[encP];have zk:=hc.1;have zl:=hp.1;repeat first|(refine r_ ?_;simp)|refine q_ ?_
 refine E3 3 0 145 1 rfl rfl ?_;simp;obtain⟨K,hK⟩:∃K,K=[AObj.vars [.list (c.map encL)],AObj.vars [.list (p.map encL)],AObj.vars [AV.nils],AObj.vars [AV.nils]]:=⟨_,rfl⟩
 have hst:=GL.start (K:=K) (S:=3) [] [] 145 1 (by rw[hK];simp);refine Qx (Qm (sl':=[(2,.vptr 0 0),(3,.vptr 1 0),(4,.vptr 2 0),(5,.vptr 3 0),(6,.i (0:Nat))]) ?_ (by simp));refine Qw (F:=fun(u:Nat×Nat×List AObj)=>⟨[(2,.vptr 0 0),(3,.vptr 1 0),(4,.vptr 2 0),(5,.vptr 3 0),(6,.i u.1)],u.2.2⟩)
  (fun u=>u.1≤c.length∧GL K u.2.2 3 u.2.1 [] [] 145 1 (upL (fun i=>Eo (c.getD i []++p.getD i [])) u.1)) (fun u=>c.length - u.1) ?_ (0,K.length,_) ⟨by simp,by rw[Ax,hK]at *;exact hst⟩
 rintro⟨j,q,H2⟩ ⟨hj,g⟩ ih;simp only at hj g ih ⊢;have g0:H2[0]? =some (AObj.vars [.list (c.map encL)]):=g.kp (by decide) (by rw[hK];rfl);have g1:H2[1]? =some (AObj.vars [.list (p.map encL)]):=g.kp (by decide) (by rw[hK];rfl);repeat first|(refine r_ ?_;simp[g0])|refine q_ ?_
 refine Ql rfl (fun zd=> ?_) (fun ze=> ?_)
 ·have z1:j<c.length:=by simpa using zd
  have z7:j<p.length:=by omega
  have hw:IntKind.i64.wrap ((j:Int)+1)=j+1:=wrap_i64 _ (by omega) (by omega);have gK:=g;have gc:=g.cell;have ga:=g.arr;rw[Ea]at gc;simp only[xP]at gc;have c0:∀L:List AObj,(H2++L)[0]? =some (AObj.vars [.list (c.map encL)]):=fun L=>Qn g0 L;have c1:∀L:List AObj,(H2++L)[1]? =some (AObj.vars [.list (p.map encL)]):=fun L=>Qn g1 L;have c3:∀L:List AObj,(H2++L)[3]? =some (AObj.vars [AV.sl q 1 0 j]):=fun L=>Qn gc L;have d0:∀(L:List AObj) h,(H2++L)[0]'h=AObj.vars [.list (c.map encL)]:=fun L h=>(yT h).2 (c0 L);have d1:∀(L:List AObj) h,(H2++L)[1]'h=AObj.vars [.list (p.map encL)]:=fun L h=>(yT h).2 (c1 L);have d3:∀(L:List AObj) h,(H2++L)[3]'h=AObj.vars [AV.sl q 1 0 j]:=fun L h=>(yT h).2 (c3 L);have zf:∀y∈c[j]++p[j],O0 y:=fun y hy=>by
   rcases zO.1 hy with h|h
   ·exact(y1v hc (zG z1)) y h
   ·exact(y1v hp (zG z7)) y h
  have zg:ur (c[j].length+p[j].length) (yI encIv c[j]++yI encIv p[j])=yI encIv c[j]++yI encIv p[j]:=zI (by simp);have hb:=zc _ (zG z1) _ (zG z7);repeat first|(refine r_ ?_;simp)|refine q_ ?_
  have z8:=Ea (fun i=>Eo (c.getD i []++p.getD i [])) j;have zh:upL (fun i=>Eo (c.getD i []++p.getD i [])) (j+1)=upL (fun i=>Eo (c.getD i []++p.getD i [])) j++[encL (Eo (c[j]++p[j]))]:=by rw[P4];simp only[W7 z1,W7 z7]
  have z6:=fun q H=>ih (j+1,q,H);have zm:=Qt ga;have zi:¬q=H2.length+2:=by omega
  clear gK;have e3:∀L:List AObj,(H2.set q .dead++L)[3]? =some (AObj.vars [AV.sl q 1 0 j]):=fun L=>by have:=g.at L;rw[Ea]at this;exact this
  have f3:∀(L:List AObj) h,(H2.set q .dead++L)[3]'h=AObj.vars [AV.sl q 1 0 j]:=fun L h=>(yT h).2 (e3 L);simp only[zh]at z6;clear ih;generalize upL (fun i=>Eo (c.getD i []++p.getD i [])) j=xs at *
  refine Gq (P:=Tryz.prog) tOk mixed [8,14,17,19] (.val 0 (.val 3 (.val 4 (.val 5 (.val 6 (.val 7 (.val 9 (.val 11 (.three 1 (.two 2 (.two 8 (.val 10 (.val 12 (.val 13 (.one 14 (.one 15 (.one 16 (.one 17 (.val 18 (.one 19 (.done)))))))))) 10 (.val 12 (.two 8 (.val 13 (.one 14 (.one 15 (.one 16 (.one 17 (.val 18 (.one 19 (.done)))))))) 13 (.one 8 (.one 14 (.one 15 (.one 16 (.one 17 (.val 18 (.one 19 (.done))))))))))) 10 (.val 12 (.two 2 (.two 8 (.val 13 (.one 14 (.one 15 (.one 16 (.one 17 (.val 18 (.one 19 (.done)))))))) 13 (.one 8 (.one 14 (.one 15 (.one 16 (.one 17 (.val 18 (.one 19 (.done))))))))) 13 (.one 2 (.one 8 (.one 14 (.one 15 (.one 16 (.one 17 (.val 18 (.one 19 (.done)))))))))))) 2 (.three 1 (.two 8 (.val 10 (.val 12 (.val 13 (.one 14 (.one 15 (.one 16 (.one 17 (.val 18 (.one 19 (.done)))))))))) 10 (.val 12 (.two 8 (.val 13 (.one 14 (.one 15 (.one 16 (.one 17 (.val 18 (.one 19 (.done)))))))) 13 (.one 8 (.one 14 (.one 15 (.one 16 (.one 17 (.val 18 (.one 19 (.done))))))))))) 8 (.val 10 (.val 12 (.val 13 (.two 1 (.one 14 (.one 15 (.one 16 (.one 17 (.val 18 (.one 19 (.done))))))) 14 (.val 1 (.one 15 (.one 16 (.one 17 (.val 18 (.one 19 (.done))))))))))) 10 (.val 12 (.three 1 (.two 8 (.val 13 (.one 14 (.one 15 (.one 16 (.one 17 (.val 18 (.one 19 (.done)))))))) 13 (.one 8 (.one 14 (.one 15 (.one 16 (.one 17 (.val 18 (.one 19 (.done))))))))) 8 (.val 13 (.two 1 (.one 14 (.one 15 (.one 16 (.one 17 (.val 18 (.one 19 (.done))))))) 14 (.val 1 (.one 15 (.one 16 (.one 17 (.val 18 (.one 19 (.done))))))))) 13 (.two 1 (.one 8 (.one 14 (.one 15 (.one 16 (.one 17 (.val 18 (.one 19 (.done)))))))) 8 (.two 1 (.one 14 (.one 15 (.one 16 (.one 17 (.val 18 (.one 19 (.done))))))) 14 (.val 1 (.one 15 (.one 16 (.one 17 (.val 18 (.one 19 (.done)))))))))))) 10 (.val 12 (.three 1 (.two 2 (.two 8 (.val 13 (.one 14 (.one 15 (.one 16 (.one 17 (.val 18 (.one 19 (.done)))))))) 13 (.one 8 (.one 14 (.one 15 (.one 16 (.one 17 (.val 18 (.one 19 (.done))))))))) 13 (.one 2 (.one 8 (.one 14 (.one 15 (.one 16 (.one 17 (.val 18 (.one 19 (.done)))))))))) 2 (.three 1 (.two 8 (.val 13 (.one 14 (.one 15 (.one 16 (.one 17 (.val 18 (.one 19 (.done)))))))) 13 (.one 8 (.one 14 (.one 15 (.one 16 (.one 17 (.val 18 (.one 19 (.done))))))))) 8 (.val 13 (.two 1 (.one 14 (.one 15 (.one 16 (.one 17 (.val 18 (.one 19 (.done))))))) 14 (.val 1 (.one 15 (.one 16 (.one 17 (.val 18 (.one 19 (.done))))))))) 13 (.two 1 (.one 8 (.one 14 (.one 15 (.one 16 (.one 17 (.val 18 (.one 19 (.done)))))))) 8 (.two 1 (.one 14 (.one 15 (.one 16 (.one 17 (.val 18 (.one 19 (.done))))))) 14 (.val 1 (.one 15 (.one 16 (.one 17 (.val 18 (.one 19 (.done)))))))))) 13 (.two 1 (.one 2 (.one 8 (.one 14 (.one 15 (.one 16 (.one 17 (.val 18 (.one 19 (.done))))))))) 2 (.two 1 (.one 8 (.one 14 (.one 15 (.one 16 (.one 17 (.val 18 (.one 19 (.done)))))))) 8 (.two 1 (.one 14 (.one 15 (.one 16 (.one 17 (.val 18 (.one 19 (.done))))))) 14 (.val 1 (.one 15 (.one 16 (.one 17 (.val 18 (.one 19 (.done))))))))))))))))))))) (fun S'=>∃q',GL K S'.hp 3 q' [] [] 145 1 (xs++[encL (Eo (c[j]++p[j]))])∧look S'.sl 2=some (.vptr 0 0)∧look S'.sl 3=some (.vptr 1 0)∧look S'.sl 4=some (.vptr 2 0)∧look S'.sl 5=some (.vptr 3 0)∧look S'.sl 6=some (.i j)) rfl (by kernel_rfl) ?_ ?_
  ·simp[g0,g1,gc,c0,c1,c3,d0,d1,d3,z1,z7]
   repeat' (first
    |refine And.intro ?_ ?_
    |(refine Qq tOk rfl rfl Ps rfl Hi rfl (by decide) (by decide) rfl rfl rfl ?_;simp[g0,g1,gc,c0,c1,c3,d0,d1,d3,z1,z7];refine⟨by simp[W4,g0,g1,gc,c0,c1,c3,d0,d1,d3,z1,z7]<;>omega,?_⟩)
    |(refine Wj (H2.length+2) (e:=144) (c:=2) (xs:=yI encIv c[j]++yI encIv p[j]) (by simp) ?_;simp[zg,zi];simp only[←yG];refine Qo rfl rfl (by simp) (Vt (c[j]++p[j]) (by rw[zW];exact hb) zf) rfl ?_;rintro _ rfl;simp)
    |(refine Qq tOk rfl rfl T68 rfl Ps rfl (by decide) (by decide) rfl rfl rfl ?_;simp[Qn ga,Qu ga,z8,e3,f3];refine⟨by simp[W4,Qn ga,Qu ga,z8,e3,f3]<;>omega,?_⟩)
    |exact⟨_,g.putL [_,_,_,_] _ z8.symm⟩)
  ·rintro⟨sl,E⟩ ⟨q',g',s2,s3,s4,s5,s6⟩;simp only at g' s2 s3 s4 s5 s6;simp;refine Wd (sl':=[(2,.vptr 0 0),(3,.vptr 1 0),(4,.vptr 2 0),(5,.vptr 3 0),(6,.i j)]) ?_ (by simp[s2,s3,s4,s5,s6]);repeat first|(refine r_ ?_;simp[hw])|refine q_ ?_
   refine Qm (sl':=[(2,.vptr 0 0),(3,.vptr 1 0),(4,.vptr 2 0),(5,.vptr 3 0),(6,.i (j+1:Nat))]) (z6 q' E ⟨by omega,g'⟩ (by omega)) ?_;simp
 ·have za:j=c.length:=by simp at ze;omega
  subst za;have g2:=g.cell;have g3:=g.arr;have gR:H2[2]? =some (AObj.vars [AV.nils]):=g.kp (by decide) (by rw[hK];rfl);rw[Ea]at g2;simp only[xP]at g2;have hS:=(zA.1 g2).1;have zj:q≠2∧q≠3:=by have:=g.ge;rw[hK]at this;simp at this;omega
  have z8:=Ea (fun i=>Eo (c.getD i []++p.getD i [])) c.length;have zb: .list (upL (fun i=>Eo (c.getD i []++p.getD i [])) c.length)=AV.list ((W9 c p).map encL):=by rw[Hz,z0w (by omega)]
  generalize upL (fun i=>Eo (c.getD i []++p.getD i [])) c.length=xs at *
  refine Wu q g3 3 g2 ?_;have k1:∀X,((H2.set q .dead).set 3 X)[2]? =some (AObj.vars [AV.nils]):=fun X=>Qr (by decide) (Qr zj.1 gR _) _;have k2:∀X,((H2.set q .dead).set 3 X)[3]? =some X:=fun X=>zH (by simpa using hS);have k3:∀X Y,(((H2.set q .dead).set 3 X).set 2 Y)[2]? =some Y:=fun X Y=>Qz (k1 X) _;simp[z8];rw[zI (by omega)];repeat first|(refine r_ ?_;simp[k1,k2,k3])|refine q_ ?_
  exact AV.list.inj zb
end Go.Abs
namespace Go.Abs
open Go Go.Proofs Go.Maps Go.RowKit
theorem d1w(p q:Prd):Md (Qv p) (Qv q)=y0q (Q8 p 0) (Q8 q 0):=by
 have h1:decide (((Q8 p 0).1:Int)<(Q8 q 0).1)=decide ((Q8 p 0).1<(Q8 q 0).1):=by rw[decide_eq_decide];omega
 have h2:decide (((Q8 p 0).1:Int)=(Q8 q 0).1)=decide ((Q8 p 0).1=(Q8 q 0).1):=by rw[decide_eq_decide];omega
 unfold Md y0q Qv;simp only[h1,h2]
def Oy(p:Prd)(L:List Prd)(k:Nat):List Prd:=E5 p (L.take k)
theorem Kh(p:Prd)(L:List Prd):Oy p L 0=[]:=by simp[Oy,E5]
theorem d0i(p:Prd)(L:List Prd):Oy p L L.length=E5 p L:=by simp[Oy]
theorem y05(p:Prd)(L:List Prd)(k:Nat)(h:k<L.length):Oy p L (k+1)=Oy p L k++((if W2 (Wv L[k] p)then []else [Wv L[k] p])++(if W2 (Wv L[k] (Ei p))then []else [Wv L[k] (Ei p)])):=by unfold Oy E5;rw[zL h,wZ];simp
theorem g0l(p:Prd)(L:List Prd)(k:Nat):(Oy p L k).length≤(E5 p L).length:=by
 have h:E5 p L=Oy p L k++E5 p (L.drop k):=by unfold Oy E5;rw[←wZ,List.take_append_drop]
 rw[h,zW];omega
def Ap(T:Nat)(l:List Prd)(i:Nat):List Prd:=Ez T (l.take i)
theorem J7(T:Nat)(l:List Prd):Ap T l 0=[Wt T]:=by simp[Ap,Ez]
theorem v0v(T:Nat)(l:List Prd):Ap T l l.length=Ez T l:=by simp[Ap]
theorem y0s(T:Nat)(l:List Prd)(i:Nat)(h:i<l.length):Ap T l (i+1)=E5 l[i] (Ap T l i):=by unfold Ap Ez;rw[zL h,x_];rfl
theorem k0p{T:Nat}(h0:0<T)(hT:T≤16){l:List Prd}(hl:∀p∈l,PCk T p)(hn:l.length≤4096)(i:Nat):
  (Ap T l i).length≤40000000∧∀c∈Ap T l i,PWf T c∧W2 c=false∧∀s∈c,s.length≤40000000:=
 Pb h0 hT (fun p hp=>hl p (yW hp)) (by rw[xB];omega)
def D1(L:List Prd)(i:Nat):List Prd:=(L.take i).foldl Lv []
theorem Sx(L:List Prd):D1 L 0=[]:=by simp[D1]
theorem j0f(L:List Prd):D1 L L.length=Lz L:=by simp[D1,Lz]
theorem Sb(L:List Prd)(i:Nat)(h:i<L.length):D1 L (i+1)=Lv (D1 L i) L[i]:=by unfold D1;rw[zL h,x_];rfl
theorem Cd(L:List Prd):∀i,i≤L.length→(D1 L i).length=i
 |0,_=>by rw[Sx];rfl
 |i+1,h=>by rw[Sb L i (by omega),(P8 _ _).length_eq,yE,Cd L i (by omega)]
theorem Cw(L:List Prd):∀i,i≤L.length→∀c∈D1 L i,c∈L
 |0,_,c,hc=>by rw[Sx]at hc;cases hc
 |i+1,h,c,hc=>by
  rw[Sb L i (by omega)]at hc;rcases zU.1 ((P8 _ _).mem_iff.1 hc)with rfl|hc
  ·exact zG _
  ·exact Cw L i (by omega) c hc
theorem k06{s:List Prd}{x:Prd}{j:Nat}(h:j<s.length):Xb s x (j+1)=if y0q (Q8 x 0) (Q8 s[j] 0)=true then Xb s x j else j+1:=by rw[Xb,zD h]
theorem Mo{α:Type}{xs:List α}{k n:Nat}(hn:n=xs.length):(xs.drop k).take (n - k)=xs.drop k:=by rw[zI (by rw[yY];omega)]
attribute [local irreducible] Oy Ap D1 Wt Wv Ei W2 Xb Ez E5 Q8
theorem Di(T:Int)(l:List Prd)(hT:1≤T∧T≤16)(hl:∀p∈l,PCk T.toNat p)(hn:l.length≤4096):PC Tryz.prog 205 [.i T,LP l] (fun r=>r=LP (Wa T.toNat l)):=by
 refine Qs tOk Tryz.func205 rfl Tryz.results205 rfl (by simp[Tryz.ntmps205]) ?_;rw[Tryz.ntmps205];simp only[Qp];simp only[LP];repeat first|(refine r_ ?_;simp)|refine q_ ?_
 refine Qo rfl rfl (by simp) (y06 T (by omega) (by omega)) rfl ?_;rintro _ rfl;simp;repeat first|(refine r_ ?_;simp)|refine q_ ?_
 refine Qx (Qm (sl':=[(0,.i T),(1,.list (l.map encP)),(5,.sl 0 1 0 (Ap T.toNat l 0).length),(6,.i (0:Nat))]) ?_ (by simp[J7]));have hg:=k0p (T:=T.toNat) (by omega) (by omega) hl hn;refine Qw (F:=fun(u:Nat×Nat×List AObj)=>⟨[(0,.i T),(1,.list (l.map encP)),(5,.sl u.2.1 1 0 (Ap T.toNat l u.1).length),(6,.i u.1)],u.2.2⟩)
  (fun u=>u.1≤l.length∧u.2.2[u.2.1]? =some (.arr 70 1 ((Ap T.toNat l u.1).map encP))) (fun u=>l.length - u.1) ?_ (0,0,_) ⟨xA _,by rw[J7];rfl⟩
 rintro⟨i,q,H⟩ ⟨hi,hq⟩ ih;simp only at hi hq ih ⊢;repeat first|(refine r_ ?_;simp)|refine q_ ?_
 refine Ql rfl (fun ye=> ?_) (fun yf=> ?_)
 ·have z7:i<l.length:=by simpa using ye
  have hw:IntKind.i64.wrap ((i:Int)+1)=i+1:=wrap_i64 _ (by omega) (by omega);obtain⟨g1,g2⟩:=hg i;have zw:=y0s T.toNat l i z7;have yy:=(hg (i+1)).1;have zh:=hl _ (zG z7);have yr:=fun q' G'=>ih (i+1,q',G');simp only[zw]at yr;rw[zw]at yy;clear zw;have ze:(yI encP l)[i]? =some (encP l[i]):=by simp[z7]
  have zf:∀hh,(yI encP l)[i]'hh=encP l[i]:=fun hh=>by simp
  have zg:(yI encP l).length=l.length:=by simp
  generalize l[i]=p at *;generalize Ap T.toNat l i=L at *
  repeat first|(refine r_ ?_;simp)|refine q_ ?_
  refine Wg 7 70 1 rfl ?_;simp;repeat first|(refine r_ ?_;simp)|refine q_ ?_
  have hst:=SL.start H 70 1;refine Qx (Qm (sl':=[(0,.i T),(1,.list (l.map encP)),(5,.sl q 1 0 L.length),(6,.i i),(7,.sl H.length 1 0 (Oy p L 0).length),(8,.i (0:Nat))]) ?_ (by simp[Kh]));refine Qw (F:=fun(u:Nat×Nat×List AObj)=>⟨[(0,.i T),(1,.list (l.map encP)),(5,.sl q 1 0 L.length),(6,.i i),(7,.sl u.2.1 1 0 (Oy p L u.1).length),(8,.i u.1)],u.2.2⟩)
   (fun u=>u.1≤L.length∧SL H u.2.2 u.2.1 70 1 ((Oy p L u.1).map encP)) (fun u=>L.length - u.1) ?_ (0,H.length,_) ⟨xA _,by rw[Kh];simpa using hst⟩
  rintro⟨k,q',G⟩ ⟨hk,hs⟩ ih2;simp only at hk hs ih2 ⊢;repeat first|(refine r_ ?_;simp)|refine q_ ?_
  refine Ql rfl (fun yg=> ?_) (fun yh=> ?_)
  ·have z8:k<L.length:=by simpa using yg
   have y8:IntKind.i64.wrap ((k:Int)+1)=k+1:=wrap_i64 _ (by omega) (by omega);have zy:=y05 p L k z8;have x9:=g0l p L k;have za:=fun q' G'=>ih2 (k+1,q',G');simp only[zy]at za;clear zy;obtain⟨w1,w2,w3⟩:=g2 _ (zG z8);have zz:(yI encP L)[k]? =some (encP L[k]):=by simp[z8]
   have y9:(yI encP L).length=L.length:=by simp
   have y0:∀hh,(yI encP L)[k]'hh=encP L[k]:=fun hh=>by simp
   generalize L[k]=c at *;generalize Oy p L k=S at *
   have cB:=C1 T.toNat c p w1 zh.wf (fun s hs t ht=>by have:=w3 s hs;have:=(zh.2 t ht).1;omega) (by omega);have cR:=f04 T.toNat p zh.wf (fun s hs=>by have:=(zh.2 s hs).1;omega) (by omega);have cB2:=C1 T.toNat c (Ei p) w1 (Hw zh.wf) (fun s hs t ht=>by have:=w3 s hs;have:=q1v zh.wf (fun s hs=>(zh.2 s hs).1) t ht;omega) (by omega);have y4:=hs.kp hq;have ya:∀M:List AObj,(G++M)[q]? =some (.arr 70 1 (L.map encP)):=fun M=>Qn y4 M;simp only[encP]at zz y0 ze zf;simp only[encP]at cB cR cB2;repeat first|(refine r_ ?_;simp)|refine q_ ?_
   refine Gq (P:=Tryz.prog) tOk mixed [21,22] (.val 0 (.val 1 (.val 2 (.val 3 (.val 4 (.val 5 (.val 6 (.val 7 (.val 9 (.val 10 (.val 11 (.val 12 (.val 13 (.val 14 (.val 15 (.val 16 (.three 8 (.three 17 (.three 18 (.two 19 (.one 20 (.one 21 (.one 22 (.done)))) 20 (.one 19 (.one 21 (.one 22 (.done))))) 19 (.two 18 (.one 20 (.one 21 (.one 22 (.done)))) 20 (.one 18 (.one 21 (.one 22 (.done))))) 20 (.two 18 (.one 19 (.one 21 (.one 22 (.done)))) 19 (.one 18 (.one 21 (.one 22 (.done)))))) 19 (.two 17 (.two 18 (.one 20 (.one 21 (.one 22 (.done)))) 20 (.one 18 (.one 21 (.one 22 (.done))))) 20 (.one 17 (.one 18 (.one 21 (.one 22 (.done)))))) 20 (.two 17 (.two 18 (.one 19 (.one 21 (.one 22 (.done)))) 19 (.one 18 (.one 21 (.one 22 (.done))))) 19 (.one 17 (.one 18 (.one 21 (.one 22 (.done))))))) 19 (.two 8 (.two 17 (.two 18 (.one 20 (.one 21 (.one 22 (.done)))) 20 (.one 18 (.one 21 (.one 22 (.done))))) 20 (.one 17 (.one 18 (.one 21 (.one 22 (.done)))))) 20 (.one 8 (.one 17 (.one 18 (.one 21 (.one 22 (.done))))))) 20 (.two 8 (.two 17 (.two 18 (.one 19 (.one 21 (.one 22 (.done)))) 19 (.one 18 (.one 21 (.one 22 (.done))))) 19 (.one 17 (.one 18 (.one 21 (.one 22 (.done)))))) 19 (.one 8 (.one 17 (.one 18 (.one 21 (.one 22 (.done)))))))))))))))))))))))) (fun S'=>∃(u v:Nat) (E:List AObj),S'.hp=G++E∧look S'.sl 9=some (.vptr u 0)∧look S'.sl 10=some (.vptr v 0)∧(G++E)[u]? =some (.vars [.list ((Wv c p).map encL)])∧(G++E)[v]? =some (.vars [.list ((Wv c (Ei p)).map encL)])∧look S'.sl 0=some (.i T)∧look S'.sl 1=some (.list (l.map encP))∧look S'.sl 5=some (.sl q 1 0 L.length)∧look S'.sl 6=some (.i i)∧look S'.sl 7=some (.sl q' 1 0 S.length)∧look S'.sl 8=some (.i k)) rfl (by kernel_rfl) ?_ ?_
   ·simp[y4,ya,zz,y0,y9,z8,z7,ze,zf,zg]
    repeat' (first
     |refine And.intro ?_ ?_
     |(refine Qo rfl rfl (by simp) cB rfl ?_;rintro _ rfl;simp[y4,ya,zz,y0,y9,z8,z7,ze,zf,zg])
     |(refine Qo rfl rfl (by simp) cR rfl ?_;rintro _ rfl;simp[y4,ya,zz,y0,y9,z8,z7,ze,zf,zg])
     |(refine Qo rfl rfl (by simp) cB2 rfl ?_;rintro _ rfl;simp[y4,ya,zz,y0,y9,z8,z7,ze,zf,zg]))
   ·rintro⟨sl,E0⟩ ⟨u,v,E,rfl,s9,s10,hu,hv,s0,s1,s5,s6,s7,s8⟩;simp only at s9 s10 s0 s1 s5 s6 s7 s8;simp;refine Wd (sl':=[(0,.i T),(1,.list (l.map encP)),(5,.sl q 1 0 L.length),(6,.i i),(7,.sl q' 1 0 S.length),(8,.i k),(9,.vptr u 0),(10,.vptr v 0)]) ?_ (by simp[s9,s10,s0,s1,s5,s6,s7,s8]);have zd:=hs.add E;have xa:=zd.kp hq;generalize G++E=G2 at *
    have yz:q'≠v:=fun e=>by have:=zd.arr;rw[e,hv]at this;simp at this
    have yt:∀M,(G2.set q' .dead++M)[v]? =some (.vars [.list ((Wv c (Ei p)).map encL)]):=fun M=>Qn (Qr yz hv _) M;repeat first|(refine r_ ?_;simp[hu])|refine q_ ?_
    refine Qo rfl rfl (by simp) (Hf (Wv c p)) rfl ?_;rintro _ rfl;simp;have zi:(yI encP S).length=S.length:=by simp
    cases hv1:W2 (Wv c p)with
    |true=>
     rw[hv1]at za;refine Q1 rfl ?_;simp;repeat first|(refine r_ ?_;simp[hv])|refine q_ ?_
     refine Qo rfl rfl (by simp) (Hf (Wv c (Ei p))) rfl ?_;rintro _ rfl;simp;cases hv2:W2 (Wv c (Ei p))with
     |true=>
      rw[hv2]at za;refine Q1 rfl ?_;simp;repeat first|(refine r_ ?_;simp[y8])|refine q_ ?_
      refine Qm (sl':=[(0,.i T),(1,.list (l.map encP)),(5,.sl q 1 0 L.length),(6,.i i),(7,.sl q' 1 0 S.length),(8,.i (k+1:Nat))]) ?_ (by simp);have:=za q' G2 ⟨by omega,by simpa using zd⟩ (by omega);simpa using this
     |false=>
      rw[hv2]at za;refine Q1 rfl ?_;simp;repeat first|(refine r_ ?_;simp[hv])|refine q_ ?_
      refine Qq tOk rfl rfl T87 rfl T70 rfl (by decide) (by decide) rfl rfl rfl ?_;simp[Qn zd.arr,Qu zd.arr,zi];refine⟨by simp[W4,Qn zd.arr,Qu zd.arr,zi]<;>omega,?_⟩;repeat first|(refine r_ ?_;simp[y8])|refine q_ ?_
      refine Qm (sl':=[(0,.i T),(1,.list (l.map encP)),(5,.sl q 1 0 L.length),(6,.i i),(7,.sl (G2.length+1) 1 0 (S.length+1)),(8,.i (k+1:Nat))]) ?_ (by simp);have:=za (G2.length+1) _ ⟨by omega,by simpa using zd.put [AObj.arr 70 1 [encP (Wv c (Ei p))]] ((S++[Wv c (Ei p)]).map encP) rfl⟩ (by omega);simpa using this
    |false=>
     rw[hv1]at za;refine Q1 rfl ?_;simp;repeat first|(refine r_ ?_;simp[hu])|refine q_ ?_
     refine Qq tOk rfl rfl T87 rfl T70 rfl (by decide) (by decide) rfl rfl rfl ?_;simp[Qn zd.arr,Qu zd.arr,zi];refine⟨by simp[W4,Qn zd.arr,Qu zd.arr,zi]<;>omega,?_⟩;repeat first|(refine r_ ?_;simp[yt])|refine q_ ?_
     have yu:=zd.put [AObj.arr 70 1 [encP (Wv c p)]] ((S++[Wv c p]).map encP) rfl;refine Uf fun Z hZ=> ?_;have zx:SL H Z (G2.length+1) 70 1 ((S++[Wv c p]).map encP):=by rw[hZ];simpa using yu
     have x0:Z[v]? =some (.vars [.list ((Wv c (Ei p)).map encL)]):=by rw[hZ];exact yt _
     clear hZ yu;have y5:((S++[Wv c p]).map encP).length=S.length+1:=by simp
     generalize G2.length+1=q3 at *;refine Qo rfl rfl (by simp) (Hf (Wv c (Ei p))) rfl ?_
     rintro _ rfl;simp;cases hv2:W2 (Wv c (Ei p))with
     |true=>
      rw[hv2]at za;refine Q1 rfl ?_;simp;repeat first|(refine r_ ?_;simp[y8])|refine q_ ?_
      refine Qm (sl':=[(0,.i T),(1,.list (l.map encP)),(5,.sl q 1 0 L.length),(6,.i i),(7,.sl q3 1 0 (S.length+1)),(8,.i (k+1:Nat))]) ?_ (by simp);have:=za q3 Z ⟨by omega,by simpa using zx⟩ (by omega);simpa using this
     |false=>
      rw[hv2]at za;refine Q1 rfl ?_;simp;repeat first|(refine r_ ?_;simp[x0])|refine q_ ?_
      generalize y6:(S++[Wv c p]).map encP=mm at *;refine Qq tOk rfl rfl T87 rfl T70 rfl (by decide) (by decide) rfl rfl rfl ?_
      simp[Qn zx.arr,Qu zx.arr,y5];refine⟨by simp[W4,Qn zx.arr,Qu zx.arr,y5]<;>omega,?_⟩;repeat first|(refine r_ ?_;simp[y8])|refine q_ ?_
      refine Qm (sl':=[(0,.i T),(1,.list (l.map encP)),(5,.sl q 1 0 L.length),(6,.i i),(7,.sl (Z.length+1) 1 0 (S.length+2)),(8,.i (k+1:Nat))]) ?_ (by simp);have x1:=zx.put [AObj.arr 70 1 [encP (Wv c (Ei p))]] (mm++[encP (Wv c (Ei p))]) rfl;have:=za (Z.length+1) _ ⟨by omega,by
       have e:yI encP (S++((if false=true then []else [Wv c p])++if false=true then []else [Wv c (Ei p)]))=mm++[encP (Wv c (Ei p))]:=by rw[←y6];simp
       rw[e];simpa using x1⟩ (by omega)
      simpa using this
  ·have y7:k=L.length:=by simp at yh;omega
   have x2:Oy p L k=E5 p L:=by rw[y7,d0i]
   rw[x2]at hs ⊢;repeat first|(refine r_ ?_;simp[hw])|refine q_ ?_
   refine Qm (sl':=[(0,.i T),(1,.list (l.map encP)),(5,.sl q' 1 0 (E5 p L).length),(6,.i (i+1:Nat))]) ?_ (by simp);exact yr q' G ⟨by omega,hs.arr⟩ (by omega)
 ·have zj:i=l.length:=by simp at yf;omega
  subst zj;rw[v0v]at hq ⊢;obtain⟨xb,yv⟩:=Pb (T:=T.toNat) (by omega) (by omega) hl hn;have hR:Wa T.toNat l=Lz (Ez T.toNat l):=rfl;rw[hR];generalize Ez T.toNat l=C at *
  repeat first|(refine r_ ?_;simp)|refine q_ ?_
  refine Wd (sl':=[(5,.sl q 1 0 C.length),(11,.nils),(12,.i (0:Nat))]) ?_ (by simp);refine Ev q hq ?_;simp;rw[zI (by simp)];refine Wg 11 70 1 rfl ?_;simp;clear hq;refine Qx (Qm (sl':=[(5,.list (C.map encP)),(11,.sl H.length 1 0 (0:Nat)),(12,.i (0:Nat))]) ?_ (by simp));refine Qw (F:=fun(u:Nat×Nat×List AObj)=>⟨[(5,.list (C.map encP)),(11,.sl u.2.1 1 0 u.1),(12,.i u.1)],u.2.2⟩)
   (fun u=>u.1≤C.length∧u.2.2[u.2.1]? =some (.arr 70 1 ((D1 C u.1).map encP))) (fun u=>C.length - u.1) ?_ (0,H.length,_) ⟨xA _,by rw[Sx];simp⟩
  rintro⟨i,q2,G⟩ ⟨x3,zc⟩ ih3;simp only at x3 zc ih3 ⊢;repeat first|(refine r_ ?_;simp)|refine q_ ?_
  refine Ql rfl (fun ye=> ?_) (fun yf=> ?_)
  ·have z7:i<C.length:=by simpa using ye
   have hw:IntKind.i64.wrap ((i:Int)+1)=i+1:=wrap_i64 _ (by omega) (by omega);have zi:=Cd C i (by omega);have x4:=Cw C i (by omega);have zw:=Sb C i z7;have zk:=fun q' G'=>ih3 (i+1,q',G');simp only[zw]at zk;clear zw;obtain⟨w1,w2,w3⟩:=yv _ (zG z7);have zm:(yI encP C)[i]? =some (encP C[i]):=by simp[z7]
   have zn:∀hh,(yI encP C)[i]'hh=encP C[i]:=fun hh=>by simp
   generalize C[i]=x at *;generalize D1 C i=S at *
   have zb:(S.map encP).length=i:=by simpa using zi
   repeat first|(refine r_ ?_;simp)|refine q_ ?_
   refine Qx (Qm (sl':=[(5,.list (C.map encP)),(11,.sl q2 1 0 i),(12,.i i),(13,.i i)]) ?_ (by simp));refine Qw (F:=fun(j:Nat)=>⟨[(5,.list (C.map encP)),(11,.sl q2 1 0 i),(12,.i i),(13,.i j)],G⟩)
    (fun j=>j≤i∧Xb S x j=Xb S x S.length) (fun j=>j) ?_ i ⟨Nat.le_refl _,by rw[zi]⟩
   rintro j ⟨hj,hJ⟩ ih4;try simp only at hj hJ ih4 ⊢
   by_cases hj0:0<j
   ·obtain⟨j',rfl⟩:∃j',j=j'+1:=⟨j - 1,by omega⟩
    have yi:j'<S.length:=by omega
    have yb:IntKind.i64.wrap (j':Int)=j':=wrap_i64 _ (by omega) (by omega);obtain⟨y1,y2,y3⟩:=yv _ (x4 _ (zG yi));rw[k06 yi]at hJ;have yc:(yI encP S)[j']? =some (encP S[j']):=by simp[yi]
    have yd:∀hh,(yI encP S)[j']'hh=encP S[j']:=fun hh=>by simp
    have zo:(0:Int)<(j':Int)+1:=by omega
    have yj:j'<i:=by omega
    simp only[encP]at zm zn yc yd;repeat first|(refine r_ ?_;simp)|refine q_ ?_
    refine Qy tOk mixed [] (.val 0 (.val 1 (.val 2 (.val 3 (.val 4 (.val 5 (.val 6 (.val 8 (.val 9 (.val 10 (.val 11 (.val 12 (.one 7 (.one 13 (.one 14 (.val 15 (.done))))))))))))))))) rfl (by kernel_rfl) ?_;simp[z7,zm,zn,zc,yc,yd,yb,zb,zo,yj];refine Qo rfl rfl (by simp) (Ud x w2) rfl ?_;rintro _ rfl;simp[z7,zm,zn,zc,yc,yd,yb,zb,zo,yj];refine Qo rfl rfl (by simp) (Ud S[j'] y2) rfl ?_;rintro _ rfl;simp[z7,zm,zn,zc,yc,yd,yb,zb,zo,yj];refine Qo rfl rfl (by simp) (Bw (Qv x) (Qv S[j'])) rfl ?_;rintro _ rfl;simp;rw[d1w];cases hb:y0q (Q8 x 0) (Q8 S[j'] 0)with
    |true=>
     rw[hb,if_pos rfl]at hJ;refine Q1 rfl ?_;repeat first|(refine r_ ?_;simp[yb])|refine q_ ?_
     refine Qm (sl':=[(5,.list (C.map encP)),(11,.sl q2 1 0 i),(12,.i i),(13,.i j')]) ?_ (by simp);exact ih4 j' ⟨by omega,hJ⟩ (by omega)
    |false=>
     rw[hb,if_neg (by simp)]at hJ;refine Q1 rfl ?_;obtain⟨k,hk⟩:∃k,k=j'+1:=⟨_,rfl⟩
     rw[←hk]at hJ;have yk:k=Xb S x S.length:=hJ;have zp:k≤i:=by omega
     refine Wd (sl':=[(5,.list (C.map encP)),(11,.sl q2 1 0 i),(12,.i i),(13,.i (k:Nat))]) ?_ (by simp[hk]);have x5:(0:Int)≤(k:Int):=by omega
     have yl:(k:Int)≤(i:Int):=by omega
     have zq:Lv S x=S.take k++x::S.drop k:=by rw[Lv,←yk]
     repeat first|(refine r_ ?_;simp[zp])|refine q_ ?_
     refine Qq tOk rfl rfl T87 rfl T70 rfl (by decide) (by decide) rfl rfl rfl ?_;simp[Qn zc,Qu zc,zb,zp];refine⟨⟨fun y hy=> ?_,by simp;omega⟩,?_⟩
     ·obtain⟨c',_,rfl⟩:=zM.1 (wI (yW hy));exact⟨rfl,rfl⟩
     rw[Mo zb.symm];refine Ex fun Z hZ=> ?_;have zr:=Qt zc;have z1:Z[q2]? =some (.arr 70 1 (S.map encP)):=by rw[hZ];simp[zE zr,zc]
     have z2:Z[G.length+1]? =some (.arr 70 1 ((S.map encP).drop k)):=by rw[hZ];simp
     have zl:Z.length=G.length+2:=by rw[hZ];simp
     clear hZ;refine Wd (sl':=[(5,.list (C.map encP)),(11,.sl q2 1 0 i),(12,.i i),(13,.i (k:Nat)),(14,.sl (G.length+1) 1 0 (i - k))]) ?_ (by simp);refine H5 q2 k z1 ?_;have z3:(Z.set q2 (.arr 70 1 ((S.map encP).take k)))[q2]? =some (.arr 70 1 ((S.map encP).take k)):=Qz z1 _;have z4:(Z.set q2 (.arr 70 1 ((S.map encP).take k)))[G.length+1]? =some (.arr 70 1 ((S.map encP).drop k)):=Qr (by omega) z2 _;have x6:(Z.set q2 (.arr 70 1 ((S.map encP).take k))).length=G.length+2:=by simp[zl]
     generalize Z.set q2 (.arr 70 1 ((S.map encP).take k))=Y at *;clear z1 z2 zl;clear Z
     have zt:((S.map encP).take k).length=k:=by rw[xB];omega
     have ym:((S.map encP).drop k).length=i - k:=by rw[yY];omega
     have yn:(S.map encP).take k=(S.take k).map encP:=by rw[yR]
     have yo:(S.map encP).drop k=(S.drop k).map encP:=by rw[yS]
     have zu:(Lv S x).map encP=(S.map encP).take k++(encP x::(S.map encP).drop k):=by rw[zq,yG,yO,yn,yo]
     have yp:∀y∈(S.map encP).drop k,y.cells.length=1∧y.cells.all AV.leaf=true:=fun y hy=>by obtain⟨c',_,rfl⟩:=zM.1 (wI hy);exact⟨rfl,rfl⟩
     generalize (S.map encP).take k=tk at *;generalize (S.map encP).drop k=dk at *;refine Qy tOk mixed [8,10] (.val 0 (.val 1 (.val 2 (.val 3 (.val 4 (.val 5 (.val 6 (.val 9 (.one 7 (.one 8 (.one 10 (.val 11 (.done))))))))))))) rfl (by kernel_rfl) ?_
     simp[z7,zm,zn,zp];refine Qq tOk rfl rfl T87 rfl T70 rfl (by decide) (by decide) rfl rfl rfl ?_;simp[Qn z3,Qu z3,zt];refine⟨by simp[W4,Qn z3,Qu z3,zt]<;>omega,?_⟩;refine Uf fun Z hZ=> ?_;have z5:Z[Y.length+1]? =some (.arr 70 1 (tk++[encP x])):=by rw[hZ,zC (by simp)];simp
     have z6:Z[G.length+1]? =some (.arr 70 1 dk):=by rw[hZ];exact Qn (Qr (by omega) z4 _) _
     clear hZ;have zv:(tk++[encP x]).length=k+1:=by simp[zt]
     have x7:i - k≤dk.length:=by omega
     have yq:dk.take (i - k)=dk:=zI (by omega);generalize y6:tk++[encP x]=mm at *;refine Qq tOk rfl rfl T87 rfl T70 rfl (by decide) (by decide) rfl rfl rfl ?_
     simp[Qn z5,Qu z5,Qn z6,zv,ym,yq,z5,z6];refine⟨⟨yp,by simp;omega⟩,?_⟩;repeat first|(refine r_ ?_;simp[hw])|refine q_ ?_
     refine Qm (sl':=[(5,.list (C.map encP)),(11,.sl Z.length 1 0 (i+1)),(12,.i (i+1:Nat))]) ?_ (by simp;omega);refine zk Z.length _ ⟨by omega,?_⟩ (by omega);rw[zu,zC (by simp),←y6];simp
   ·have x8:j=0:=by omega
    subst x8;have yw:IntKind.i64.wrap (-1)= -1:=by decide
    repeat first|(refine r_ ?_;simp)|refine q_ ?_
    refine Qy tOk mixed [] (.val 0 (.val 1 (.val 2 (.val 3 (.val 4 (.val 5 (.val 6 (.val 8 (.val 9 (.val 10 (.val 11 (.val 12 (.one 7 (.one 13 (.one 14 (.val 15 (.done))))))))))))))))) rfl (by kernel_rfl) ?_;simp[z7,zm,zn,zc,zb,yw];refine Wm rfl rfl ?_;simp[zc,zb,yw];refine Wm rfl rfl ?_;simp;refine Wm rfl rfl ?_;simp;refine Q1 rfl ?_;obtain⟨k,hk⟩:∃k,k=0:=⟨_,rfl⟩
    have yk:k=Xb S x S.length:=by rw[←hJ,hk];unfold Xb;rfl
    have zp:k≤i:=by omega
    refine Wd (sl':=[(5,.list (C.map encP)),(11,.sl q2 1 0 i),(12,.i i),(13,.i (k:Nat))]) ?_ (by simp[hk]);have x5:(0:Int)≤(k:Int):=by omega
    have yl:(k:Int)≤(i:Int):=by omega
    have zq:Lv S x=S.take k++x::S.drop k:=by rw[Lv,←yk]
    repeat first|(refine r_ ?_;simp[zp])|refine q_ ?_
    refine Qq tOk rfl rfl T87 rfl T70 rfl (by decide) (by decide) rfl rfl rfl ?_;simp[Qn zc,Qu zc,zb,zp];refine⟨⟨fun y hy=> ?_,by simp;omega⟩,?_⟩
    ·obtain⟨c',_,rfl⟩:=zM.1 (wI (yW hy));exact⟨rfl,rfl⟩
    rw[Mo zb.symm];refine Ex fun Z hZ=> ?_;have zr:=Qt zc;have z1:Z[q2]? =some (.arr 70 1 (S.map encP)):=by rw[hZ];simp[zE zr,zc]
    have z2:Z[G.length+1]? =some (.arr 70 1 ((S.map encP).drop k)):=by rw[hZ];simp
    have zl:Z.length=G.length+2:=by rw[hZ];simp
    clear hZ;refine Wd (sl':=[(5,.list (C.map encP)),(11,.sl q2 1 0 i),(12,.i i),(13,.i (k:Nat)),(14,.sl (G.length+1) 1 0 (i - k))]) ?_ (by simp);refine H5 q2 k z1 ?_;have z3:(Z.set q2 (.arr 70 1 ((S.map encP).take k)))[q2]? =some (.arr 70 1 ((S.map encP).take k)):=Qz z1 _;have z4:(Z.set q2 (.arr 70 1 ((S.map encP).take k)))[G.length+1]? =some (.arr 70 1 ((S.map encP).drop k)):=Qr (by omega) z2 _;have x6:(Z.set q2 (.arr 70 1 ((S.map encP).take k))).length=G.length+2:=by simp[zl]
    generalize Z.set q2 (.arr 70 1 ((S.map encP).take k))=Y at *;clear z1 z2 zl;clear Z
    have zt:((S.map encP).take k).length=k:=by rw[xB];omega
    have ym:((S.map encP).drop k).length=i - k:=by rw[yY];omega
    have yn:(S.map encP).take k=(S.take k).map encP:=by rw[yR]
    have yo:(S.map encP).drop k=(S.drop k).map encP:=by rw[yS]
    have zu:(Lv S x).map encP=(S.map encP).take k++(encP x::(S.map encP).drop k):=by rw[zq,yG,yO,yn,yo]
    have yp:∀y∈(S.map encP).drop k,y.cells.length=1∧y.cells.all AV.leaf=true:=fun y hy=>by obtain⟨c',_,rfl⟩:=zM.1 (wI hy);exact⟨rfl,rfl⟩
    generalize (S.map encP).take k=tk at *;generalize (S.map encP).drop k=dk at *;refine Qy tOk mixed [8,10] (.val 0 (.val 1 (.val 2 (.val 3 (.val 4 (.val 5 (.val 6 (.val 9 (.one 7 (.one 8 (.one 10 (.val 11 (.done))))))))))))) rfl (by kernel_rfl) ?_
    simp[z7,zm,zn,zp];refine Qq tOk rfl rfl T87 rfl T70 rfl (by decide) (by decide) rfl rfl rfl ?_;simp[Qn z3,Qu z3,zt];refine⟨by simp[W4,Qn z3,Qu z3,zt]<;>omega,?_⟩;refine Uf fun Z hZ=> ?_;have z5:Z[Y.length+1]? =some (.arr 70 1 (tk++[encP x])):=by rw[hZ,zC (by simp)];simp
    have z6:Z[G.length+1]? =some (.arr 70 1 dk):=by rw[hZ];exact Qn (Qr (by omega) z4 _) _
    clear hZ;have zv:(tk++[encP x]).length=k+1:=by simp[zt]
    have x7:i - k≤dk.length:=by omega
    have yq:dk.take (i - k)=dk:=zI (by omega);generalize y6:tk++[encP x]=mm at *;refine Qq tOk rfl rfl T87 rfl T70 rfl (by decide) (by decide) rfl rfl rfl ?_
    simp[Qn z5,Qu z5,Qn z6,zv,ym,yq,z5,z6];refine⟨⟨yp,by simp;omega⟩,?_⟩;repeat first|(refine r_ ?_;simp[hw])|refine q_ ?_
    refine Qm (sl':=[(5,.list (C.map encP)),(11,.sl Z.length 1 0 (i+1)),(12,.i (i+1:Nat))]) ?_ (by simp;omega);refine zk Z.length _ ⟨by omega,?_⟩ (by omega);rw[zu,zC (by simp),←y6];simp
  ·have zj:i=C.length:=by simp at yf;omega
   subst zj;rw[j0f]at zc;have yx:=Lo C;refine Ev q2 zc ?_;simp[yx];rw[zI (by simp[yx])];repeat first|(refine r_ ?_;simp)|refine q_ ?_
end Go.Abs
namespace Go.Abs
open Go Go.Proofs Go.Maps Go.RowKit
def f0j(p:Prd):Bool:=p.any fun s=>decide (256<s.length)
def y1r(p:Prd):Int×Prd:=if f0j p then(5,[])else(0,p)
theorem z0c{p:Prd}(h:∀i,∀hi:i<p.length,¬256<p[i].length):f0j p=false:=by unfold f0j;rw[wd];intro s hs;obtain⟨i,hi,rfl⟩:=yC hs;have:=h i hi;simpa using this
theorem g0q{p:Prd}{i:Nat}(hi:i<p.length)(h:256<p[i].length):f0j p=true:=by unfold f0j;rw[xN];exact⟨_,zG hi,by simpa using h⟩
theorem Xq(p:Prd):PC Tryz.prog 296 [encP p] (fun r=>r= .tup [encP (y1r p).2,.i (y1r p).1]):=by
 refine Qs tOk Tryz.func296 rfl Tryz.results296 rfl (by simp[Tryz.ntmps296]) ?_;rw[Tryz.ntmps296];simp only[Qp];simp only[encP];refine Ww 0 0 rfl rfl (fun hlen=> ?_);rw[zV]at hlen;repeat first|(refine r_ ?_;simp)|refine q_ ?_
 refine Q4 p.length (fun j=>∀i,∀hi:i<p.length,i<j→¬256<p[i].length) (fun j=>[(1,.vptr 0 0),(2,.vptr 1 0),(3,.i 0),(4,.i j)]) (fun _=>[.vars [.list (p.map encL)],.vars [.nils]]) rfl (by simp) (by simp) (by simp) (by simp) (by simp) ?_;intro j hj hI ih;repeat first|(refine r_ ?_;simp)|refine q_ ?_
 refine Ql rfl (fun z7=> ?_) (fun z8=> ?_)
 ·have z1:j<p.length:=by simpa using z7
  have hw:IntKind.i64.wrap ((j:Int)+1)=j+1:=wrap_i64 _ (by omega) (by omega);repeat first|(refine r_ ?_;simp[z1])|refine q_ ?_
  refine Ql rfl (fun h=> ?_) (fun h=> ?_)
  ·have hb:=g0q z1 (by simp at h;omega);rw[y1r,if_pos hb];repeat first|(refine r_ ?_;simp)|refine q_ ?_
  ·repeat first|(refine r_ ?_;simp[hw])|refine q_ ?_
   refine Q3 _ (ih z1 (fun i hi za=> ?_)) rfl (by simp) ?_ (by simp) (by simp)
   ·by_cases e:i=j
    ·subst e;simp at h;omega
    ·exact hI i hi (by omega)
   ·simp
 ·have z6:j=p.length:=by simp at z8;omega
  subst z6;have hb:=z0c fun i hi=>hI i hi hi;rw[y1r,hb];repeat first|(refine r_ ?_;simp)|refine q_ ?_
theorem B8(L:List Prd):P0 L=(decide (256<L.length) || L.any f0j):=rfl
attribute [local irreducible] Wa Ew f0j
theorem Mu{T:Int}:∀(l:List Prd) (j:Nat),(∀i,∀hi:i<l.length,i<j→Ew T l[i]=0)→∀h:j<l.length,Ew T l[j]≠0→Th T l=Ew T l[j]
 |[],j,_,h,_=>by simp at h
 |p::l,0,_,_,h=>by simp only[uD]at h ⊢;rw[Th,if_pos h]
 |p::l,j+1,hI,hj,h=>by have h0:=hI 0 (by simp) (by omega);simp only[uD]at h0;simp only[List.getElem_cons_succ]at h ⊢;rw[Th,if_neg (fun k=>k h0)];exact Mu l j (fun i hi z1=>by have:=hI (i+1) (by simpa using hi) (by omega);simpa using this) (by simpa using hj) h
theorem y10{T:Int}(l:List Prd)(hI:∀i,∀hi:i<l.length,Ew T l[i]=0):Th T l=0:=(Ym l).2 fun p hp=>by obtain⟨i,hi,rfl⟩:=yC hp;exact hI i hi
attribute [local irreducible] Th y1r
theorem Xv(T:Int)(l:List Prd):PC Tryz.prog 248 [.i T,LP l] (fun r=>r= .tup [LP (Rs T l).2,.i (Rs T l).1]):=by
 refine Qs tOk Tryz.func248 rfl Tryz.results248 rfl (by simp[Tryz.ntmps248]) ?_;rw[Tryz.ntmps248];simp only[Qp];simp only[LP];rw[←By];obtain⟨R,hR⟩:∃R,Gp T l=R:=⟨_,rfl⟩
 rw[hR];unfold Gp at hR;have zg:(T<1∨16<T)∨(1≤T∧T≤16):=by omega
 rcases zg with hT|hT
 ·rw[if_pos hT]at hR;rw[←hR];rcases hT with hT|hT
  ·repeat first|(refine r_ ?_;simp[hT])|refine q_ ?_
   refine Q1 rfl ?_;repeat first|(refine r_ ?_;simp)|refine q_ ?_
  ·have zh:¬T<1:=by omega
   repeat first|(refine r_ ?_;simp[hT,zh])|refine q_ ?_
   refine Q1 rfl ?_;repeat first|(refine r_ ?_;simp)|refine q_ ?_
 have n1:¬T<1:=by omega
 have n2:¬16<T:=by omega
 rw[if_neg (by omega)]at hR;repeat first|(refine r_ ?_;simp[n1,n2])|refine q_ ?_
 refine Q1 rfl ?_;repeat first|(refine r_ ?_;simp)|refine q_ ?_
 refine Ql rfl (fun h=> ?_) (fun h=> ?_)
 ·rw[if_pos (by simp at h;omega)]at hR;rw[←hR];repeat first|(refine r_ ?_;simp)|refine q_ ?_
 have hl:¬256<l.length:=by simp at h;omega
 rw[if_neg hl]at hR;repeat first|(refine r_ ?_;simp)|refine q_ ?_
 refine Q4 l.length (fun j=>∀i,∀hi:i<l.length,i<j→Ew T l[i]=0) (fun j=>[(0,.i T),(1,LP l),(6,.i j)]) (fun _=>[]) rfl (by simp) (by simp) (by simp) (by simp) (by simp) ?_;intro j hj hI ih;repeat first|(refine r_ ?_;simp)|refine q_ ?_
 refine Ql rfl (fun z8=> ?_) (fun za=> ?_)
 ·have z1:j<l.length:=by simpa using z8
  have hw:IntKind.i64.wrap ((j:Int)+1)=j+1:=wrap_i64 _ (by omega) (by omega);repeat first|(refine r_ ?_;simp[z1])|refine q_ ?_
  refine Qo rfl rfl (by simp) (K4 T l[j]) rfl ?_;rintro _ rfl;simp;repeat first|(refine r_ ?_;simp)|refine q_ ?_
  refine Ql rfl (fun h=> ?_) (fun h=> ?_)
  ·have h':Ew T l[j]≠0:=by simpa using h
   rw[Mu l j hI z1 h',if_pos h']at hR;rw[←hR];repeat first|(refine r_ ?_;simp)|refine q_ ?_
  ·have h':Ew T l[j]=0:=by simpa using h
   repeat first|(refine r_ ?_;simp[hw])|refine q_ ?_
   refine Q3 _ (ih z1 (fun i hi zi=> ?_)) rfl (by simp) ?_ (by simp) (by simp)
   ·by_cases e:i=j
    ·subst e;exact h'
    ·exact hI i hi (by omega)
   ·simp
 have zj:j=l.length:=by simp at za;omega
 have zc:=y10 l fun i hi=>hI i hi (by omega);have zd:∀p∈l,PCk T.toNat p:=fun p hp=>((El T p).1 ((Ym l).1 zc p hp)).2;rw[if_neg (fun k=>k zc)]at hR;repeat first|(refine r_ ?_;simp)|refine q_ ?_
 refine Qo rfl rfl (by simp) (Di T l hT zd (by omega)) rfl ?_;rintro _ rfl;simp;obtain⟨hb,_⟩:=Yv (T:=T.toNat) (by omega) (by omega) zd (by omega:l.length≤4096);rw[B8]at hR;generalize Wa T.toNat l=C at *
 repeat first|(refine r_ ?_;simp)|refine q_ ?_
 refine Ql rfl (fun h=> ?_) (fun h=> ?_)
 ·have:256<C.length:=by simp at h;omega
  rw[decide_eq_true this,Bool.true_or,if_pos rfl]at hR;rw[←hR];repeat first|(refine r_ ?_;simp)|refine q_ ?_
 have hC:¬256<C.length:=by simp at h;omega
 rw[decide_eq_false hC,Bool.false_or]at hR;repeat first|(refine r_ ?_;simp)|refine q_ ?_
 refine Q4 C.length (fun j=>∀i,∀hi:i<C.length,i<j→f0j C[i]=false) (fun j=>[(8,LP C),(9,.i j)]) (fun _=>[]) rfl (by simp) (by simp) (by simp) (by simp) (by simp) ?_;intro j2 zl ze zk;repeat first|(refine r_ ?_;simp)|refine q_ ?_
 refine Ql rfl (fun z8=> ?_) (fun za=> ?_)
 ·have z1:j2<C.length:=by simpa using z8
  have hw:IntKind.i64.wrap ((j2:Int)+1)=j2+1:=wrap_i64 _ (by omega) (by omega);repeat first|(refine r_ ?_;simp[z1])|refine q_ ?_
  refine Qo rfl rfl (by simp) (Xq C[j2]) rfl ?_;rintro _ rfl;simp;cases z7:f0j C[j2]with
  |true=>
   have z6:C.any f0j=true:=xN.2 ⟨_,zG z1,z7⟩;have zb:y1r C[j2]=(5,[]):=by unfold y1r;rw[if_pos z7]
   rw[z6,if_pos rfl]at hR;rw[zb,←hR];simp;repeat first|(refine r_ ?_;simp)|refine q_ ?_
   refine Q1 rfl ?_;repeat (first|(refine r_ ?_;simp)|refine q_ ?_)
  |false=>
   have zb:y1r C[j2]=(0,C[j2]):=by unfold y1r;rw[if_neg (by rw[z7];simp)]
   rw[zb];simp;repeat first|(refine r_ ?_;simp)|refine q_ ?_
   refine Q1 rfl ?_;repeat first|(refine r_ ?_;simp[hw])|refine q_ ?_
   refine Q3 _ (zk z1 (fun i hi zi=> ?_)) rfl (by simp) ?_ (by simp) (by simp)
   ·by_cases e:i=j2
    ·subst e;exact z7
    ·exact ze i hi (by omega)
   ·simp
 ·have zf:j2=C.length:=by simp at za;omega
  have z6:C.any f0j=false:=by rw[wd];intro p hp;obtain⟨i,hi,rfl⟩:=yC hp;rw[ze i hi (by omega)];simp
  rw[z6,if_neg (by simp)]at hR;rw[←hR];repeat first|(refine r_ ?_;simp)|refine q_ ?_
end Go.Abs
namespace Go.Abs
open Go Go.Proofs Go.Maps Go.RowKit
theorem v0x{a:Aut}{cl:List Prd}{f i:Nat}{Q:List (List Int)}(hf:0<f)(h:Q[i]? =none):L6 a cl f i Q=some Q:=by
 obtain⟨g,rfl⟩:∃g,f=g+1:=⟨f - 1,by omega⟩
 rw[L6,h]
theorem u0p{a:Aut}{cl:List Prd}{f i:Nat}{Q:List (List Int)}{l:List Int}(h:Q[i]? =some l)(hQ:Q.length≤256):L6 a cl (f+1) i Q=(O3 Q (E9 a cl l)).bind (L6 a cl f (i+1)):=by rw[L6,h,round_eq _ _ hQ];simp only;split<;>rfl
theorem k0d(a:Aut)(cl:List Prd)(l:List Int){k:Nat}(h:k<cl.length):(E9 a cl l).drop k=Q6 a l (Qv cl[k])::(E9 a cl l).drop (k+1):=by
 have hk:k<(E9 a cl l).length:=by simpa[E9]using h
 rw[List.drop_eq_getElem_cons hk];simp[E9]
theorem j1o{a:Aut}{Q:List (List Int)}{x:List Int}(hQ:∀l∈Q,l.length≤256∧∀s∈l,0≤s∧s<a.fin.length)(hx:x.length≤256∧∀s∈x,0≤s∧s<a.fin.length):∀l∈As Q x,l.length≤256∧∀s∈l,0≤s∧s<a.fin.length:=by
 intro l hl;unfold As at hl;split at hl
 ·exact hQ l hl
 ·rcases zO.1 hl with hl|hl
  ·exact hQ l hl
  ·rw[zJ.1 hl];exact hx
theorem j1x(Q:List (List Int))(x:List Int):decide (V7 (fun y=>decide (y=x)) Q<0)=decide (x∉Q):=by
 have:=q0z (fun y=>decide (y=x)) Q;rw[decide_eq_decide];by_cases hx:x∈Q
 ·have h:Q.any (fun y=>decide (y=x))=true:=xN.2 ⟨x,hx,by simp⟩;rw[h]at this;have:=of_decide_eq_true this;constructor
  ·intro k;omega
  ·intro k;exact absurd hx k
 ·have h:Q.any (fun y=>decide (y=x))=false:=by rw[wd];intro y hy;have:y≠x:=fun e=>hx (e▸hy);simpa using this
  rw[h]at this;have:=of_decide_eq_false this;constructor
  ·intro _;exact hx
  ·intro _;omega
attribute [local irreducible] Q6 Qv L6 O3 E9 Rs U2 nxB Yf V7 Wx
theorem N1(a:Aut)(ha:OkA a):PC Tryz.prog 208 [encA a] (fun r=>r= .tup [LLI (Ux a).2.2,LP (Ux a).2.1,.i (Ux a).1]):=by
 refine Qs tOk Tryz.func208 rfl Tryz.results208 rfl (by simp[Tryz.ntmps208]) ?_;rw[Tryz.ntmps208];simp only[Qp];simp only[encA];obtain⟨R,hR⟩:∃R,Ux a=R:=⟨_,rfl⟩
 rw[hR];unfold Ux at hR;rw[if_neg (fun k=>k ((U7 a).2 ha))]at hR;have y6:=ha.mvs;have zu:=ha.fin;repeat first|(refine r_ ?_;simp)|refine q_ ?_
 refine Qy tOk mixed [] (.val 0 (.val 1 (.val 2 (.one 3 (.one 4 (.val 5 (.val 6 (.val 7 (.val 8 (.val 9 (.done))))))))))) rfl (by kernel_rfl) ?_;simp;refine Qo rfl rfl (by simp) (Gl a (by omega)) rfl ?_;rintro _ rfl;simp;refine Qo rfl rfl (by simp) (Xv a.types (onA a)) rfl ?_;rintro _ rfl;simp;have zv:=Bm ha.types (Du ha);have z8:=Yv (T:=a.types.toNat) (by have:=ha.types;omega) (by have:=ha.types;omega) (Du ha) (by simp[onA];omega);generalize Rs a.types (onA a)=M at *
 repeat first|(refine r_ ?_;simp)|refine q_ ?_
 refine Ql rfl (fun h=> ?_) (fun h=> ?_)
 ·rw[if_pos (by simpa using h)]at hR;rw[←hR];repeat first|(refine r_ ?_;simp)|refine q_ ?_
 have h0:M.1=0:=by simpa using h
 rw[if_neg (fun k=>k h0)]at hR;have hM:M.2=Wa a.types.toNat (onA a):=by
  rcases zv with k|k
  ·rw[h0]at k;cases k
  ·rw[k]
 rw[←hM]at z8;generalize M.2=cl at *
 have zw:∀c∈cl,W2 c=false:=fun c hc=>(z8.2 c hc).2.1;have y7:=z8.1;have y8:∀c∈cl,∀l,Q6 a l (Qv c)=Q6 a l (Qv c):=fun _ _ _=>rfl;repeat first|(refine r_ ?_;simp)|refine q_ ?_
 refine Pl 1 (e:=3) (c:=1) (xs:=[.i 0]) rfl 2 (o0:= .va 47 1 [.sl 1 1 0 1]) rfl (by decide) rfl ?_;simp[AObj.fz,AV.fz];refine I7 2 rfl (by simp[AV.cells,AV.pure]) ?_;simp;refine Qx (Qm (sl':=[(1,.vptr 0 0),(2,.nils),(3,.nils),(4,.i 0),(5,LP cl),(7,.sl 2 1 0 ([[0]]:List (List Int)).length),(8,.i (0:Nat))]) ?_ (by simp));refine Qw (F:=fun(u:Nat×Nat×List (List Int)×List AObj)=>⟨[(1,.vptr 0 0),(2,.nils),(3,.nils),(4,.i 0),(5,LP cl),(7,.sl u.2.1 1 0 u.2.2.1.length),(8,.i u.1)],u.2.2.2⟩)
  (fun u=>u.1≤u.2.2.1.length∧u.2.2.1.length≤256∧u.2.2.2[0]? =some (.vars (Q0 a))∧u.2.2.2[u.2.1]? =some (.arr 47 1 (LQ u.2.2.1))∧(∀l∈u.2.2.1,l.length≤256∧∀s∈l,0≤s∧s<a.fin.length)∧L6 a cl (257 - u.1) u.1 u.2.2.1=Dw a cl) (fun u=>257 - u.1) ?_ (0,2,[[0]],_) ⟨by simp,by simp,rfl,rfl,fun l hl=>by
   rw[zJ.1 hl];simp;omega,rfl⟩
 rintro⟨n,q,Q,H⟩ ⟨hn,zh,zp,hq,zi,hB⟩ ih;simp only at hn zh zp hq zi hB ih ⊢;repeat first|(refine r_ ?_;simp)|refine q_ ?_
 refine Ql rfl (fun zx=> ?_) (fun zy=> ?_)
 ·have za:n<Q.length:=by simpa using zx
  have hw:IntKind.i64.wrap ((n:Int)+1)=n+1:=wrap_i64 _ (by omega) (by omega);have zq:Q[n]? =some Q[n]:=zD za;rw[show 257 - n=(256 - n)+1 by omega,u0p zq zh]at hB;obtain⟨y9,zz⟩:=zi _ (zG za);generalize Q[n]=l at *
  repeat first|(refine r_ ?_;simp)|refine q_ ?_
  refine Qx (Qm (sl':=[(1,.vptr 0 0),(2,.nils),(3,.nils),(4,.i 0),(5,LP cl),(7,.sl q 1 0 Q.length),(8,.i n),(9,.i (0:Nat))]) ?_ (by simp));refine Qw (F:=fun(u:Nat×Nat×List (List Int)×List AObj)=>⟨[(1,.vptr 0 0),(2,.nils),(3,.nils),(4,.i 0),(5,LP cl),(7,.sl u.2.1 1 0 u.2.2.1.length),(8,.i n),(9,.i u.1)],u.2.2.2⟩)
   (fun u=>u.1≤cl.length∧n<u.2.2.1.length∧u.2.2.1.length≤256∧u.2.2.2[0]? =some (.vars (Q0 a))∧u.2.2.2[u.2.1]? =some (.arr 47 1 (LQ u.2.2.1))∧(∀l∈u.2.2.1,l.length≤256∧∀s∈l,0≤s∧s<a.fin.length)∧u.2.2.1[n]? =some l∧O3 u.2.2.1 ((E9 a cl l).drop u.1)=O3 Q (E9 a cl l)) (fun u=>cl.length - u.1) ?_ (0,q,Q,H) ⟨xA _,za,zh,zp,hq,zi,zq,by rw[List.drop_zero]⟩
  rintro⟨k,q2,Q2,G⟩ ⟨hk,zd,zf,k0,kq,ze,kn,kR⟩ ih2;simp only at hk zd zf k0 kq ze kn kR ih2 ⊢;repeat first|(refine r_ ?_;simp)|refine q_ ?_
  refine Ql rfl (fun zj=> ?_) (fun zk=> ?_)
  ·have z1:k<cl.length:=by simpa using zj
   have zl:IntKind.i64.wrap ((k:Int)+1)=k+1:=wrap_i64 _ (by omega) (by omega);rw[k0d a cl l z1]at kR;have hv:=zw _ (zG z1);have zm:(yI encP cl)[k]? =some (encP cl[k]):=by simp[z1]
   have zn:∀hh,(yI encP cl)[k]'hh=encP cl[k]:=fun hh=>by simp
   generalize cl[k]=c at *
   have y0:(Q6 a l (Qv c)).length≤256:=Fl ha l (Qv c);have y1:∀s∈Q6 a l (Qv c),0≤s∧s<a.fin.length:=T7;have zg:(LQ Q2)[n]? =some (LI l):=by simp[kn]
   have zr:∀hh,(LQ Q2)[n]'hh=LI l:=fun hh=>by rw[zD hh]at zg;exact Option.some.inj zg
   have zb:(LQ Q2).length=Q2.length:=by simp
   simp only[encP]at zm zn;repeat first|(refine r_ ?_;simp)|refine q_ ?_
   refine Qy tOk mixed [] (.val 0 (.val 1 (.val 2 (.val 3 (.val 4 (.val 5 (.val 7 (.val 8 (.val 9 (.val 10 (.one 6 (.one 11 (.one 12 (.one 13 (.val 14 (.done)))))))))))))))) rfl (by kernel_rfl) ?_;simp[k0,kq,zg,zr,zb,zd,z1,zm,zn];refine Qo rfl rfl (by simp) (j0e a ha l zz (by omega)) rfl ?_;rintro _ rfl;simp[k0,kq,zg,zr,zb,zd,z1,zm,zn];refine Qo rfl rfl (by simp) (Ud c hv) rfl ?_;rintro _ rfl;simp[k0];refine Qo rfl rfl (by simp) (Sq a ha (fun z=>decide (z∈l)) (Qv c)) rfl ?_;rintro _ rfl;simp;refine Qo rfl rfl (by simp) (Mm a.fin.length (nxB a.mv (fun z=>decide (z∈l)) (Qv c)) (by omega)) rfl ?_;rintro _ rfl;simp;rw[Cn];have z6:As Q2 (Q6 a l (Qv c))=if Q6 a l (Qv c)=[]∨Q6 a l (Qv c)∈Q2 then Q2 else Q2++[Q6 a l (Qv c)]:=rfl
   have zc:=j1o ze ⟨y0,y1⟩;rw[O3]at kR;generalize Q6 a l (Qv c)=x at *
   have zo:ur Q2.length (LQ Q2)=LQ Q2:=zI (by simp);by_cases hx:x=[]
   ·rw[if_pos (.inl hx)]at z6;rw[z6]at kR zc;subst hx;repeat first|(refine r_ ?_;simp)|refine q_ ?_
    refine Wm rfl rfl ?_;simp;repeat first|(refine r_ ?_;simp)|refine q_ ?_
    refine Q1 rfl ?_;repeat first|(refine r_ ?_;simp)|refine q_ ?_
    refine Ql rfl (fun h=>by simp at h;omega) (fun _=> ?_);repeat first|(refine r_ ?_;simp[zl])|refine q_ ?_
    rw[if_neg (by omega)]at kR;refine Qm (sl':=[(1,.vptr 0 0),(2,.nils),(3,.nils),(4,.i 0),(5,LP cl),(7,.sl q2 1 0 Q2.length),(8,.i n),(9,.i (k+1:Nat))]) ?_ (by simp);exact ih2 (k+1,q2,Q2,G) ⟨by omega,zd,zf,k0,kq,ze,kn,kR⟩ (by omega)
   ·have y2:0<x.length:=List.length_pos_iff.2 hx;repeat first|(refine r_ ?_;simp[y2])|refine q_ ?_
    refine R3 rfl rfl (by first|(simp[kq,zo,zb];done)|(simp[kq,zo,zb];rfl)) (q0s Q2 x) rfl ?_;rintro _ rfl;refine⟨by first|simp|rfl|trivial,?_⟩;simp[kq,zo,zb];rw[j1x];by_cases hm:x∈Q2
    ·rw[if_pos (.inr hm)]at z6;rw[z6,if_neg (by omega)]at kR;refine Ql rfl (fun h=>by simp[hm]at h) (fun _=> ?_);repeat first|(refine r_ ?_;simp)|refine q_ ?_
     refine Ql rfl (fun h=>by simp at h;omega) (fun _=> ?_);repeat first|(refine r_ ?_;simp[zl])|refine q_ ?_
     refine Qm (sl':=[(1,.vptr 0 0),(2,.nils),(3,.nils),(4,.i 0),(5,LP cl),(7,.sl q2 1 0 Q2.length),(8,.i n),(9,.i (k+1:Nat))]) ?_ (by simp);exact ih2 (k+1,q2,Q2,G) ⟨by omega,zd,zf,k0,kq,ze,kn,kR⟩ (by omega)
    ·rw[if_neg (by rintro(h|h);exact hx h;exact hm h)]at z6;rw[z6]at kR zc;have y3:q2≠0:=fun e=>by rw[e,k0]at kq;simp at kq
     refine Ql rfl (fun _=> ?_) (fun h=>by simp[hm]at h);repeat first|(refine r_ ?_;simp)|refine q_ ?_
     have y4:(LQ Q2++[LI x])=LQ (Q2++[x]):=by simp
     refine Qq tOk rfl rfl T88 rfl T47 rfl (by decide) (by decide) rfl rfl rfl ?_;simp[Qn kq,Qu kq,zb];refine⟨by simp[W4,Qn kq,Qu kq,zb]<;>omega,?_⟩;repeat first|(refine r_ ?_;simp)|refine q_ ?_
     refine Ql rfl (fun h=> ?_) (fun h=> ?_)
     ·have z7:256<(Q2++[x]).length:=by simp at h ⊢;omega
      rw[if_pos z7]at kR;rw[←kR]at hB;rw[←hB]at hR;simp at hR;rw[←hR];repeat first|(refine r_ ?_;simp)|refine q_ ?_
     ·have z7:¬256<(Q2++[x]).length:=by simp at h ⊢;omega
      rw[if_neg z7]at kR;repeat first|(refine r_ ?_;simp[zl])|refine q_ ?_
      refine Qm (sl':=[(1,.vptr 0 0),(2,.nils),(3,.nils),(4,.i 0),(5,LP cl),(7,.sl (G.length+1) 1 0 (Q2++[x]).length),(8,.i n),(9,.i (k+1:Nat))]) ?_ (by simp);refine ih2 (k+1,G.length+1,Q2++[x],_) ⟨by omega,by simp;omega,by simp at z7 ⊢;omega,Qn (Qr y3 k0 _) _,?_,zc,by simp only;rw[zE zd];exact kn,kR⟩ (by omega);rw[zC (by simp)];simp
  ·have zt:k=cl.length:=by simp at zk;omega
   have ya:(E9 a cl l).length=cl.length:=by unfold E9;simp
   rw[List.drop_eq_nil_of_le (by omega),O3]at kR;rw[←kR]at hB;simp only[Option.bind_some]at hB;repeat first|(refine r_ ?_;simp[hw])|refine q_ ?_
   refine Qm (sl':=[(1,.vptr 0 0),(2,.nils),(3,.nils),(4,.i 0),(5,LP cl),(7,.sl q2 1 0 Q2.length),(8,.i (n+1:Nat))]) ?_ (by simp);exact ih (n+1,q2,Q2,G) ⟨by simp only;omega,zf,k0,kq,ze,by rw[show 257 - (n+1)=256 - n by omega];exact hB⟩ (by simp;omega)
 ·have y5:n=Q.length:=by simp at zy;omega
  rw[v0x (by omega) (by rw[List.getElem?_eq_none_iff];omega)]at hB;rw[←hB]at hR;rw[←hR];refine Ev q hq ?_;simp;rw[zI (by simp)];repeat first|(refine r_ ?_;simp)|refine q_ ?_
end Go.Abs
namespace Go.Abs
open Go Go.Proofs Go.Maps Go.RowKit
theorem c01(Q:List (List Int))(x:List Int):V7 (fun y=>decide (y=x)) Q=match V4 Q x with|some i=>(i:Int)|none=> -1:=rfl
theorem w17(g:List Mv)(t:Nat):V7 (fun m:Mv=>m.dst==(t:Int)) g=match g.findIdx? fun m:Mv=>decide (m.dst=(t:Int))with|some i=>(i:Int)|none=> -1:=rfl
theorem z0x{a:Aut}{Q:List (List Int)}{n:Nat}{l:List Int}{g:List Mv}{c:Prd}(h:V4 Q (Q6 a l (Qv c))=none):stepG a Q n l g c=g:=by unfold stepG;rw[h]
theorem y0t{a:Aut}{Q:List (List Int)}{n t:Nat}{l:List Int}{g:List Mv}{c:Prd}(h:V4 Q (Q6 a l (Qv c))=some t):stepG a Q n l g c=Yo n g t c:=by unfold stepG;rw[h]
attribute [local irreducible] Ux Q6 Qv x08 Y0 Y7 Eg stepG Tk Z6 V7 U2 nxB Yf z1e Wx
theorem I6(a:Aut):PC Tryz.prog 154 [encA a] (fun r=>r= .tup [encA (Ro a).2,.i (Ro a).1]):=by
 refine Qs tOk Tryz.func154 rfl Tryz.results154 rfl (by simp[Tryz.ntmps154]) ?_;rw[Tryz.ntmps154];simp only[Qp];simp only[encA];obtain⟨R,hR⟩:∃R,Ro a=R:=⟨_,rfl⟩
 rw[hR];unfold Ro at hR;repeat first|(refine r_ ?_;simp)|refine q_ ?_
 refine Qo rfl rfl (by simp) (Ot a) rfl ?_;rintro _ rfl;simp;repeat first|(refine r_ ?_;simp)|refine q_ ?_
 refine Ql rfl (fun h=> ?_) (fun h=> ?_)
 ·have h':Wx a≠0:=by simpa using h
  rw[Nv h',if_pos h']at hR;rw[←hR];repeat first|(refine r_ ?_;simp)|refine q_ ?_
  exact⟨rfl,rfl,rfl⟩
 have zk:=(U7 a).1 (by simpa using h);repeat first|(refine r_ ?_;simp)|refine q_ ?_
 refine Qo rfl rfl (by simp) (N1 a zk) rfl ?_;rintro _ rfl;simp;repeat first|(refine r_ ?_;simp)|refine q_ ?_
 refine Ql rfl (fun h=> ?_) (fun h=> ?_)
 ·have h':(Ux a).1≠0:=by simpa using h
  rw[if_pos h']at hR;rw[←hR];repeat first|(refine r_ ?_;simp)|refine q_ ?_
  exact⟨rfl,rfl,rfl⟩
 have he:(Ux a).1=0:=by simpa using h
 rw[if_neg (fun k=>k he)]at hR;obtain⟨-,cl,Q,yu,xk,zw,zb,zd,zx⟩:=C4 he;rw[yu]at hR ⊢;have yw:=x14 zw zb;rw[←c18 yw]at hR;try simp only at hR
 have yx:=zb.lim;repeat first|(refine r_ ?_;simp)|refine q_ ?_
 refine Wd (sl':=[(1,.vptr 0 0),(2,.vptr 1 0),(3,.i 0),(5,LLI Q),(6,LP cl),(8,.vptr 2 0),(9,.i (0:Nat))]) ?_ (by simp);refine E3 2 1 4 1 rfl rfl ?_;refine Ex fun Z1 zh=> ?_;have z1l:Z1.length=4:=by rw[zh];simp
 have z1c:Z1[2]? =some (.vars [.i a.types,.sl 3 1 0 0,.nils]):=by rw[zh];rfl
 have z1f:Z1[3]? =some (.arr 4 1 []):=by rw[zh];rfl
 have z10:Z1[0]? =some (.vars (Q0 a)):=by rw[zh];rfl
 have z11:Z1[1]? =some (.vars [.i 0,.nils,.nils]):=by rw[zh];rfl
 clear zh;refine E3 2 2 73 3 z1c rfl ?_;refine Ex fun Z2 zi=> ?_;have z2c:Z2[2]? =some (.vars [.i a.types,.sl 3 1 0 0,.sl 4 3 0 0]):=by rw[zi,zH (by simp;omega)];simp[z1l]
 have z2f:Z2[3]? =some (.arr 4 1 []):=by rw[zi,zB (by omega),zE (by omega)];exact z1f
 have z2v:Z2[4]? =some (.arr 73 3 []):=by rw[zi,zB (by omega),zC (by omega)];simp[z1l]
 have z20:Z2[0]? =some (.vars (Q0 a)):=by rw[zi,zB (by omega),zE (by omega)];exact z10
 have z21:Z2[1]? =some (.vars [.i 0,.nils,.nils]):=by rw[zi,zB (by omega),zE (by omega)];exact z11
 clear zi z1l z1c z1f z10 z11;clear Z1;refine Qx (Qm (sl':=[(1,.vptr 0 0),(2,.vptr 1 0),(3,.i 0),(5,LLI Q),(6,LP cl),(8,.vptr 2 0),(9,.i (0:Nat))]) ?_ (by simp));refine Qw (F:=fun(u:Nat×Nat×Nat×List AObj)=>⟨[(1,.vptr 0 0),(2,.vptr 1 0),(3,.i 0),(5,LLI Q),(6,LP cl),(8,.vptr 2 0),(9,.i u.1)],u.2.2.2⟩)
  (fun u=>u.1≤Q.length∧u.2.2.2[0]? =some (.vars (Q0 a))∧u.2.2.2[1]? =some (.vars [.i 0,.nils,.nils])∧u.2.2.2[2]? =some (.vars [.i a.types,.sl u.2.1 1 0 u.1,.sl u.2.2.1 3 0 (Y7 a cl Q u.1).length])∧u.2.2.2[u.2.1]? =some (.arr 4 1 (((Q.take u.1).map (Tk a)).map .bool))∧u.2.2.2[u.2.2.1]? =some (.arr 73 3 ((Y7 a cl Q u.1).map encMv)))
  (fun u=>Q.length - u.1) ?_ (0,3,4,Z2) ⟨xA _,z20,z21,by rw[Pw];exact z2c,by simpa using z2f,by rw[Pw];exact z2v⟩
 clear z20 z21 z2c z2f z2v;clear Z2;rintro⟨n,f,v,G⟩ ⟨hn,g0,g1,gc,gf,gv⟩ ih;simp only at hn g0 g1 gc gf gv ih ⊢;repeat first|(refine r_ ?_;simp)|refine q_ ?_
 refine Ql rfl (fun yy=> ?_) (fun zj=> ?_)
 ·have z7:n<Q.length:=by simpa using yy
  have hw:IntKind.i64.wrap ((n:Int)+1)=n+1:=wrap_i64 _ (by omega) (by omega);have xl:Q[n]? =some Q[n]:=zD z7;have yz:=zG z7;obtain⟨zy,zz⟩:=zb.elem _ yz;have xm:=Zl zy zz;have x0:=zk.fin;have ze:=Hx a cl Q n;have yk:Q.getD n []=Q[n]:=by simp[yQ,z7]
  rw[yk]at ze;have zl:=(w0v a cl Q yx zd n z7).2;have zm:(Q.take (n+1)).map (Tk a)=(Q.take n).map (Tk a)++[Tk a Q[n]]:=by rw[zL z7,yG];rfl
  have yl:=fun f' v' G'=>ih (n+1,f',v',G');simp only[ze,zm]at yl;clear ze zm yk;have ym:(yI LI Q)[n]? =some (LI Q[n]):=by simp[z7]
  have yn:∀hh,(yI LI Q)[n]'hh=LI Q[n]:=fun hh=>by simp
  have x3:f≠v:=fun e=>by rw[e,gv]at gf;simp at gf
  have x4:f≠2:=fun e=>by rw[e,gc]at gf;simp at gf
  have yo:v≠2:=fun e=>by rw[e,gc]at gv;simp at gv
  have x5:f≠0:=fun e=>by rw[e,g0]at gf;simp at gf
  have y2:f≠1:=fun e=>by rw[e,g1]at gf;simp at gf
  have x6:v≠0:=fun e=>by rw[e,g0]at gv;simp at gv
  have y3:v≠1:=fun e=>by rw[e,g1]at gv;simp at gv
  generalize hl:Q[n]=l at *
  have zn:(((Q.take n).map (Tk a)).map AV.bool).length=n:=by simp;omega
  generalize ((Q.take n).map (Tk a))=fs at *
  repeat first|(refine r_ ?_;simp)|refine q_ ?_
  refine Qy tOk mixed [9,11] (.val 0 (.val 1 (.val 2 (.val 3 (.val 4 (.val 5 (.val 6 (.one 7 (.one 8 (.one 9 (.val 10 (.one 11 (.done))))))))))))) rfl (by kernel_rfl) ?_;simp[gc,g0,z7,ym,yn];refine Qo rfl rfl (by simp) (f09 a l zz (by omega)) rfl ?_;rintro _ rfl;simp[gc,g0];have g2c:∀M,(G.set f .dead++M)[2]? =some (.vars [.i a.types,.sl f 1 0 n,.sl v 3 0 (Y7 a cl Q n).length]):=fun M=>Qn (Qr x4 gc _) M;have g2d:∀M hh,(G.set f .dead++M)[2]'hh= .vars [.i a.types,.sl f 1 0 n,.sl v 3 0 (Y7 a cl Q n).length]:=fun M hh=>by have:=g2c M;rw[zD hh]at this;exact Option.some.inj this
  refine Qq tOk rfl rfl T22 rfl T4 rfl (by decide) (by decide) rfl rfl rfl ?_;simp[Qn gf,Qu gf,zn,g2c,g2d];refine⟨by simp[W4,Qn gf,Qu gf,zn,g2c,g2d]<;>omega,?_⟩;refine Ex fun Z hZ=> ?_;have xn:=Qt gv;have xo:=Qt gf;have z0:Z[0]? =some (.vars (Q0 a)):=by rw[hZ];exact Qr (by decide) (Qn (Qr x5 g0 _) _) _
  have z1:Z[1]? =some (.vars [.i 0,.nils,.nils]):=by rw[hZ];exact Qr (by decide) (Qn (Qr y2 g1 _) _) _
  have zc:Z[2]? =some (.vars [.i a.types,.sl (G.length+1) 1 0 (n+1),.sl v 3 0 (Y7 a cl Q n).length]):=by rw[hZ];exact Qz (g2c _) _
  have zf:Z[G.length+1]? =some (.arr 4 1 ((fs++[Tk a l]).map .bool)):=by rw[hZ,zB (by omega),zC (by simp)];simp
  have zv:Z[v]? =some (.arr 73 3 ((Y7 a cl Q n).map encMv)):=by rw[hZ];exact Qr (Ne.symm yo) (Qn (Qr x3 gv _) _) _
  have x7:G.length+1≠v:=by omega
  have x8:G.length+1≠2:=by have:=Qt gc;omega
  clear hZ g2c g2d;generalize G.length+1=f1 at *
  repeat first|(refine r_ ?_;simp)|refine q_ ?_
  refine Wd (sl':=[(1,.vptr 0 0),(2,.vptr 1 0),(3,.i 0),(5,LLI Q),(6,LP cl),(8,.vptr 2 0),(9,.i n),(10,.nils),(11,.i (0:Nat))]) ?_ (by simp);refine Wg 10 73 3 rfl ?_;simp;have hst:=SL.start Z 73 3;refine Qx (Qm (sl':=[(1,.vptr 0 0),(2,.vptr 1 0),(3,.i 0),(5,LLI Q),(6,LP cl),(8,.vptr 2 0),(9,.i n),(10,.sl Z.length 3 0 (Eg a cl Q n l 0).length),(11,.i (0:Nat))]) ?_ (by simp[S0]));refine Qw (F:=fun(u:Nat×Nat×List AObj)=>⟨[(1,.vptr 0 0),(2,.vptr 1 0),(3,.i 0),(5,LLI Q),(6,LP cl),(8,.vptr 2 0),(9,.i n),(10,.sl u.2.1 3 0 (Eg a cl Q n l u.1).length),(11,.i u.1)],u.2.2⟩)
   (fun u=>u.1≤cl.length∧SL Z u.2.2 u.2.1 73 3 ((Eg a cl Q n l u.1).map encMv)) (fun u=>cl.length - u.1) ?_ (0,Z.length,_) ⟨xA _,by rw[S0];exact hst⟩
  rintro⟨k,w,Y⟩ ⟨hk,hs⟩ ih2;simp only at hk hs ih2 ⊢;have y0:=hs.kp z0;have y4:=Mr (a:=a) (T:=a.types.toNat) (Q:=Q) (n:=n) (l:=l) (cl:=cl) (fun c hc=>(zx c hc).2.2.2.1) k;have y5:=q06 (a:=a) (Q:=Q) (n:=n) (l:=l) (cl:=cl) (fun c hc=>(zx c hc).2.2.2.2) zd k;have y6:=Py a cl Q n l zd k;repeat first|(refine r_ ?_;simp)|refine q_ ?_
  refine Ql rfl (fun y7=> ?_) (fun y8=> ?_)
  ·have z6:k<cl.length:=by simpa using y7
   have y9:IntKind.i64.wrap ((k:Int)+1)=k+1:=wrap_i64 _ (by omega) (by omega);have yp:=G5 a cl Q n l (zD z6);have ya:=zx _ (zG z6);have z8:=fun q' G'=>ih2 (k+1,q',G');simp only[yp]at z8;clear yp;have zt:(yI encP cl)[k]? =some (encP cl[k]):=by simp[z6]
   have zu:∀hh,(yI encP cl)[k]'hh=encP cl[k]:=fun hh=>by simp
   generalize cl[k]=c at *
   have x9:=fun h=>z0x (a:=a) (Q:=Q) (n:=n) (l:=l) (g:=Eg a cl Q n l k) (c:=c) h;have xa:=fun t h=>y0t (a:=a) (Q:=Q) (n:=n) (t:=t) (l:=l) (g:=Eg a cl Q n l k) (c:=c) h;generalize Eg a cl Q n l k=g at *;generalize stepG a Q n l g c=g2 at *;simp only[encP]at zt zu
   repeat first|(refine r_ ?_;simp)|refine q_ ?_
   refine Qy tOk mixed [] (.val 0 (.val 1 (.val 2 (.val 3 (.val 4 (.val 5 (.val 6 (.val 8 (.val 9 (.val 10 (.val 11 (.one 7 (.one 12 (.one 13 (.one 14 (.one 15 (.val 16 (.done)))))))))))))))))) rfl (by kernel_rfl) ?_;simp[y0,z7,ym,yn,z6,zt,zu];refine Qo rfl rfl (by simp) (j0e a zk l zz (by omega)) rfl ?_;rintro _ rfl;simp;refine Qo rfl rfl (by simp) (Ud c ya.2.1) rfl ?_;rintro _ rfl;simp;refine Qo rfl rfl (by simp) (Sq a zk (fun z=>decide (z∈l)) (Qv c)) rfl ?_;rintro _ rfl;simp;refine Qo rfl rfl (by simp) (Mm a.fin.length (nxB a.mv (fun z=>decide (z∈l)) (Qv c)) (by omega)) rfl ?_;rintro _ rfl;simp;rw[Cn];refine Qo rfl rfl (by simp) (q0s Q (Q6 a l (Qv c))) rfl ?_;rintro _ rfl;simp;rw[c01];generalize Q6 a l (Qv c)=x at *
   have za:(yI encMv g).length=g.length:=by simp
   have yb:ur g.length (yI encMv g)=yI encMv g:=zI (by simp);cases hix:V4 Q x with
   |none=>
    have h2:=x9 hix;rw[h2]at z8;simp;repeat first|(refine r_ ?_;simp)|refine q_ ?_
    refine Q1 rfl ?_;simp;repeat first|(refine r_ ?_;simp[y9])|refine q_ ?_
    refine Qm (sl':=[(1,.vptr 0 0),(2,.vptr 1 0),(3,.i 0),(5,LLI Q),(6,LP cl),(8,.vptr 2 0),(9,.i n),(10,.sl w 3 0 g.length),(11,.i (k+1:Nat))]) ?_ (by simp);exact z8 w Y ⟨by omega,hs⟩ (by omega)
   |some t=>
    have h2:=xa t hix;rw[h2]at z8;have xb:¬(t:Int)<0:=by omega
    simp;repeat first|(refine r_ ?_;simp[xb])|refine q_ ?_
    refine Ql rfl (fun h=>by simp at h) (fun _=> ?_);repeat first|(refine r_ ?_;simp)|refine q_ ?_
    refine R3 rfl rfl (by first|(simp[hs.arr,yb,za];done)|(simp[hs.arr,yb,za];rfl)) (Np g t) rfl ?_;rintro _ rfl;refine⟨by first|simp|rfl|trivial,?_⟩;simp[hs.arr,yb,za];rw[w17];repeat first|(refine r_ ?_;simp)|refine q_ ?_
    cases hfi:g.findIdx? fun m:Mv=>decide (m.dst=(t:Int))with
    |none=>
     have zg:Yo n g t c=g++[⟨n,t,c⟩]:=by rw[Yo,hfi]
     rw[zg]at z8;simp;repeat first|(refine r_ ?_;simp)|refine q_ ?_
     refine Q1 rfl ?_;simp;repeat first|(refine r_ ?_;simp[z6,zt,zu])|refine q_ ?_
     generalize yd:g.map encMv=mm at *;refine Qq tOk rfl rfl T23 rfl T73 rfl (by decide) (by decide) rfl rfl rfl ?_
     simp[Qn hs.arr,Qu hs.arr,za];refine⟨by simp[W4,Qn hs.arr,Qu hs.arr,za]<;>omega,?_⟩;repeat first|(refine r_ ?_;simp[y9])|refine q_ ?_
     refine Qm (sl':=[(1,.vptr 0 0),(2,.vptr 1 0),(3,.i 0),(5,LLI Q),(6,LP cl),(8,.vptr 2 0),(9,.i n),(10,.sl (Y.length+1) 3 0 (g++[(⟨n,t,c⟩:Mv)]).length),(11,.i (k+1:Nat))]) ?_ (by simp);refine z8 (Y.length+1) _ ⟨by omega,?_⟩ (by omega);have ye:=hs.put [AObj.arr 73 3 [encMv ⟨n,t,c⟩]] (mm++[encMv ⟨n,t,c⟩]) rfl;have e:(g++[(⟨n,t,c⟩:Mv)]).map encMv=mm++[encMv ⟨n,t,c⟩]:=by rw[←yd];simp
     rw[e];simpa using ye
    |some i=>
     obtain⟨zo,hid,-⟩:=xS.1 hfi;have xc:g[i]? =some g[i]:=zD zo;have zg:Yo n g t c=g.set i { g[i]with on:=W9 g[i].on c }:=by rw[Yo,hfi];simp[xc]
     rw[zg]at z8;simp;refine Ql rfl (fun h=>by simp at h;omega) (fun _=> ?_);repeat first|(refine r_ ?_;simp)|refine q_ ?_
     have zj:(g.map encMv)[i]? =some (.agg [.i g[i].src,.i g[i].dst,.list (g[i].on.map encL)]):=by simp[zo]
     have yq:∀hh,(g.map encMv)[i]'hh= .agg [.i g[i].src,.i g[i].dst,.list (g[i].on.map encL)]:=fun hh=>by rw[zD hh]at zj;exact Option.some.inj zj
     have yr:=zG zo;have xd:=N7 a.types.toNat g[i].on c (y4 _ yr) ya.2.2.2.1 (fun s hs t ht=>by have:=y5 _ yr s hs;have:=ya.2.2.2.2 t ht;omega) (by have:=zk.types;omega);generalize yd:g.map encMv=mm at *;refine Qy tOk mixed [14] (.val 0 (.val 1 (.val 2 (.val 3 (.val 4 (.val 5 (.val 6 (.val 7 (.val 8 (.val 9 (.val 10 (.one 11 (.val 12 (.val 13 (.one 14 (.done)))))))))))))))) rfl (by kernel_rfl) ?_
     simp[hs.arr,zj,yq,za,zo,z6,zt,zu];refine Qo rfl rfl (by simp) (xd) rfl ?_;rintro _ rfl;simp[hs.arr,zj,yq,za,zo];repeat first|(refine r_ ?_;simp[y9])|refine q_ ?_
     refine Qm (sl':=[(1,.vptr 0 0),(2,.vptr 1 0),(3,.i 0),(5,LLI Q),(6,LP cl),(8,.vptr 2 0),(9,.i n),(10,.sl w 3 0 (g.set i { g[i]with on:=W9 g[i].on c }).length),(11,.i (k+1:Nat))]) ?_ (by simp);refine z8 w _ ⟨by omega,?_⟩ (by omega);have ye:=hs.upd [] (mm.set i (.agg [.i g[i].src,.i g[i].dst,.list ((W9 g[i].on c).map encL)]));have e:(g.set i { g[i]with on:=W9 g[i].on c }).map encMv=mm.set i (.agg [.i g[i].src,.i g[i].dst,.list ((W9 g[i].on c).map encL)]):=by rw[←yd,u_];rfl
     rw[e];simpa using ye
  ·have zp:k=cl.length:=by simp at y8;omega
   have xe:Eg a cl Q n l k=Jn a cl Q n l:=by rw[zp,P9]
   rw[xe]at hs y6 ⊢;generalize xp:Jn a cl Q n l=g at *
   have y1:=hs.kp z1;have yc:=hs.kp zc;have yf:=hs.kp zf;have yv:=hs.kp zv;have xq:w≠2:=fun e=>by have:=hs.arr;rw[e,yc]at this;simp at this
   have xr:w≠v:=fun e=>by have:=hs.ge;have:=Qt zv;omega
   have za:(yI encMv g).length=g.length:=by simp
   have yg:(yI encMv (Y7 a cl Q n)).length=(Y7 a cl Q n).length:=by simp
   have xf:ur g.length (yI encMv g)=yI encMv g:=zI (by simp);have yh:∀y∈yI encMv g,y.cells.length=3∧y.cells.all AV.leaf=true:=fun y hy=>by obtain⟨m,_,rfl⟩:=zM.1 hy;exact⟨rfl,rfl⟩
   have zq:(Y7 a cl Q n++g).map encMv=(Y7 a cl Q n).map encMv++g.map encMv:=by simp
   have y2c:∀M,(Y.set v .dead++M)[2]? =some (.vars [.i a.types,.sl f1 1 0 (n+1),.sl v 3 0 (Y7 a cl Q n).length]):=fun M=>Qn (Qr yo yc _) M;have y2d:∀M hh,(Y.set v .dead++M)[2]'hh= .vars [.i a.types,.sl f1 1 0 (n+1),.sl v 3 0 (Y7 a cl Q n).length]:=fun M hh=>by have:=y2c M;rw[zD hh]at this;exact Option.some.inj this
   have xg:=hs.arr;have zr:(Y7 a cl Q n++g).length=(Y7 a cl Q n).length+g.length:=by simp
   repeat first|(refine r_ ?_;simp[yc])|refine q_ ?_
   generalize (Y7 a cl Q n).length=ml at *;generalize (Y7 a cl Q n).map encMv=mm at *;generalize g.map encMv=gm at *;refine Qq tOk rfl rfl T23 rfl T73 rfl (by decide) (by decide) rfl rfl rfl ?_
   simp[yv,xg,yg,za,xf,y2c,y2d];refine⟨⟨yh,by simp;omega⟩,?_⟩;repeat first|(refine r_ ?_;simp[hw])|refine q_ ?_
   refine Qm (sl':=[(1,.vptr 0 0),(2,.vptr 1 0),(3,.i 0),(5,LLI Q),(6,LP cl),(8,.vptr 2 0),(9,.i (n+1:Nat))]) ?_ (by simp);have xt:=Qt yv;have xu:=Qt yc;refine yl f1 Y.length _ ⟨by omega,Qr (by decide) (Qn (Qr x6 (hs.kp z0) _) _) _,Qr (by decide) (Qn (Qr y3 y1 _) _) _,?_,?_,?_⟩ (by omega)
   ·rw[Qz (y2c _) _,zr]
   ·exact Qr (Ne.symm x8) (Qn (Qr (Ne.symm x7) yf _) _) _
   ·rw[zq,zB (by omega),zC (by simp)];simp
 ·have yi:n=Q.length:=by simp at zj;omega
  subst yi;have zl:Y7 a cl Q Q.length=(Y0 a cl Q).mv:=w0m a cl Q;have yj:(Q.take Q.length).map (Tk a)=(Y0 a cl Q).fin:=by rw[zZ];exact(D9 a cl Q).symm
  have xh:(Y0 a cl Q).fin.length=Q.length:=by rw[D9];simp
  rw[zl]at gc gv;rw[yj]at gf;rw[←xh]at gc;have xi:(Y0 a cl Q).types=a.types:=J0 a cl Q;generalize Y0 a cl Q=d at *
  have xv:v≠2:=fun e=>by rw[e,gc]at gv;simp at gv
  have yt:f≠v:=fun e=>by rw[e,gv]at gf;simp at gf
  have xj:f≠2:=fun e=>by rw[e,gc]at gf;simp at gf
  have y2:f≠1:=fun e=>by rw[e,g1]at gf;simp at gf
  have y3:v≠1:=fun e=>by rw[e,g1]at gv;simp at gv
  refine Wd (sl':=[(2,.vptr 1 0),(3,.i 0),(8,.vptr 2 0)]) ?_ (by simp);refine Wu v gv 2 gc ?_;simp[yt];rw[zI (by simp)];refine Ex fun Z hZ=> ?_;have xw:=Qt gv;have z2:Z[2]? =some (.vars [.i a.types,.sl f 1 0 d.fin.length,.list (d.mv.map encMv)]):=by rw[hZ,zH (by have:=Qt gc;simpa using this)]
  have zf:Z[f]? =some (.arr 4 1 (d.fin.map .bool)):=by rw[hZ,zB (Ne.symm xj),zB (Ne.symm yt)];exact gf
  have z1:Z[1]? =some (.vars [.i 0,.nils,.nils]):=by rw[hZ,zB (by decide),zB y3];exact g1
  clear hZ;refine Wu f zf 2 z2 ?_;simp;rw[zI (by simp)];refine Ex fun X hX=> ?_;have x2:X[2]? =some (.vars [.i d.types,.list (d.fin.map .bool),.list (d.mv.map encMv)]):=by rw[hX,xi,zH (by have:=Qt z2;simpa using this)]
  have x1:X[1]? =some (.vars [.i 0,.nils,.nils]):=by rw[hX,zB (by decide),zB y2];exact z1
  clear hX;have x1s:∀Y,(X.set 1 Y)[1]? =some Y:=fun Y=>Qz x1 Y;repeat first|(refine r_ ?_;simp[x2])|refine q_ ?_
  refine Qo rfl rfl (by simp) (Bs d) rfl ?_;rintro _ rfl;simp[x1];rw[hR];repeat first|(refine r_ ?_;simp[x1s])|refine q_ ?_
end Go.Abs
namespace Go.Abs
open Go Go.Proofs Go.Maps Go.RowKit
attribute [local irreducible] Ro y24 v0b
end Go.Abs
namespace Go.Abs
open Go Go.Proofs Go.Maps Go.RowKit
attribute [local irreducible] Vu V2 Wx
attribute [local irreducible] Rp
def toD(a:Aut)(s:Int)(x:Sy)(j:Nat):Int:=match (a.mv.drop j).find? (fun m=>decide (m.src=s) && Rp m.on x)with|some m=>m.dst|none=> -1
attribute [local irreducible] toD toL
end Go.Abs
namespace Go.Abs
open Go Go.Proofs Go.Maps Go.RowKit
theorem j0u{a b:Aut}(ha:OkA a)(hb:OkA b)(ht:b.types=a.types):(∀p∈onA a++onA b,PCk a.types.toNat p)∧(onA a++onA b).length≤4096:=by
 refine⟨fun p hp=> ?_,?_⟩
 ·rcases zO.1 hp with h|h
  ·exact Du ha p h
  ·rw[←ht];exact Du hb p h
 ·have h1:=ha.mvs;have h2:=hb.mvs;simp[onA];omega
attribute [local irreducible] Qv Wa
theorem N5(a b:Aut)(ha:OkA a)(hb:OkA b)(ht:b.types=a.types):PC Tryz.prog 146 [encA a,encA b] (fun r=>r=LSy (W5 a b)):=by
 refine Qs tOk Tryz.func146 rfl Tryz.results146 rfl (by simp[Tryz.ntmps146]) ?_;rw[Tryz.ntmps146];simp only[Qp];simp only[encA];have zg:=ha.mvs;have zh:=hb.mvs;obtain⟨zc,za⟩:=j0u ha hb ht;have z6:=Yv (T:=a.types.toNat) (by have:=ha.types;omega) (by have:=ha.types;omega) zc za;unfold W5;repeat first|(refine r_ ?_;simp)|refine q_ ?_
 refine Qo rfl rfl (by simp) (Gl a (by omega)) rfl ?_;rintro _ rfl;simp;refine Qq tOk rfl rfl T87 rfl T70 rfl (by decide) (by decide) rfl rfl rfl ?_;simp;refine⟨⟨fun y hy=> ?_,by simp[onA];omega⟩,?_⟩
 ·obtain⟨c',_,rfl⟩:=zM.1 hy;exact⟨rfl,rfl⟩
 repeat first|(refine r_ ?_;simp)|refine q_ ?_
 refine Qo rfl rfl (by simp) (Gl b (by omega)) rfl ?_;rintro _ rfl;simp;refine Qq tOk rfl rfl T87 rfl T70 rfl (by decide) (by decide) rfl rfl rfl ?_;simp;refine⟨⟨fun y hy=> ?_,by simp[onA];omega⟩,?_⟩
 ·obtain⟨c',_,rfl⟩:=zM.1 hy;exact⟨rfl,rfl⟩
 repeat first|(refine r_ ?_;simp)|refine q_ ?_
 refine Wj 3 (e:=70) (c:=1) (xs:=(onA a).map encP++(onA b).map encP) rfl ?_;simp[AV.fz];rw[zI (by simp),←yG];refine Qo rfl rfl (by simp) (Di a.types (onA a++onA b) ha.types zc za) rfl ?_;rintro _ rfl;simp;generalize Wa a.types.toNat (onA a++onA b)=cl at *;refine Wd (sl':=[(6,.list (cl.map encP)),(4,.nils)]) ?_ (by simp)
 repeat first|(refine r_ ?_;simp)|refine q_ ?_
 refine Wg 7 52 2 rfl ?_;simp;refine Qx (Qm (sl':=[(6,.list (cl.map encP)),(7,.sl 4 2 0 0),(8,.i 0)]) ?_ (by simp));obtain⟨K,hK⟩:∃K,K=[AObj.vars [AV.i a.types,AV.list (yI AV.bool a.fin),AV.list (yI encMv a.mv)],AObj.vars [AV.i b.types,AV.list (yI AV.bool b.fin),AV.list (yI encMv b.mv)],AObj.dead,AObj.dead]:=⟨_,rfl⟩
 have hst:=SL.start K 52 2;refine Qw (F:=fun(u:Nat×Nat×List AObj)=>⟨[(6,.list (cl.map encP)),(7,.sl u.2.1 2 0 u.1),(8,.i u.1)],u.2.2⟩)
  (fun u=>u.1≤cl.length∧SL K u.2.2 u.2.1 52 2 (((cl.take u.1).map Qv).map encSy)) (fun u=>cl.length - u.1) ?_ (0,4,_) ⟨by simp,by rw[hK]at hst ⊢;exact hst⟩
 rintro⟨j,q,H2⟩ ⟨hj,g⟩ ih;simp only at hj g ih ⊢;repeat first|(refine r_ ?_;simp)|refine q_ ?_
 refine Ql rfl (fun zi=> ?_) (fun zj=> ?_)
 ·have z1:j<cl.length:=by simpa using zi
  have hw:IntKind.i64.wrap ((j:Int)+1)=j+1:=wrap_i64 _ (by omega) (by omega);have zk:((cl.take (j+1)).map Qv).map encSy=((cl.take j).map Qv).map encSy++[encSy (Qv cl[j])]:=by rw[zL z1,yG,yG];rfl
  have z7:(((cl.take j).map Qv).map encSy).length=j:=by simp;omega
  have zd:=fun q' H'=>ih (j+1,q',H');simp only[zk]at zd;have zl:=z6.2 _ (zG z1);have za:=z6.1;have ze:(yI encP cl)[j]? =some (encP cl[j]):=by simp[z1]
  have zf:∀hh,(yI encP cl)[j]'hh=encP cl[j]:=fun hh=>by simp
  generalize ((cl.take j).map Qv).map encSy=acc at *;generalize cl[j]=c at *;simp only[encP]at ze zf
  repeat first|(refine r_ ?_;simp[z1,ze,zf])|refine q_ ?_
  refine Qo rfl rfl (by simp) (Ud c zl.2.1) rfl ?_;rintro _ rfl;simp;refine Qq tOk rfl rfl T26 rfl T52 rfl (by decide) (by decide) rfl rfl rfl ?_;simp[Qn g.arr,Qu g.arr,z7];refine⟨by simp[W4,Qn g.arr,Qu g.arr,z7]<;>omega,?_⟩;repeat first|(refine r_ ?_;simp[hw])|refine q_ ?_
  exact Qm (sl':=[(6,.list (cl.map encP)),(7,.sl (H2.length+1) 2 0 (j+1)),(8,.i (j+1:Nat))]) (zd (H2.length+1) _ ⟨by omega,g.put [AObj.arr 52 2 [encSy (Qv c)]] _ rfl⟩ (by omega)) (by simp)
 ·have zb:j=cl.length:=by simp at zj;omega
  subst zb;have ga:=g.arr;rw[zZ]at ga;have z7:((cl.map Qv).map encSy).length=cl.length:=by simp
  obtain⟨acc,z8⟩:∃acc,acc=(cl.map Qv).map encSy:=⟨_,rfl⟩
  rw[←z8]at ga z7;repeat first|(refine r_ ?_;simp[ga,z7])|refine q_ ?_
  rw[zI (by omega),z8];simp
end Go.Abs
namespace Go.Abs
open Go Go.Proofs Go.Maps Go.RowKit
attribute [simp] x28 x24
abbrev PQ:=(Int×Int)×List Sy
def v2r(e:PQ):AV:= .agg [.i e.1.1,.i e.1.2,.list (e.2.map encSy)]
def w20(L:List PQ)(s:Int×Int):Bool:=decide (s∈L.map (·.1))
structure PInv (a b:Aut) (L:List PQ):Prop where
 nd:(L.map (·.1)).Nodup
 rng:∀e∈L,inS a e.1.1∧inS b e.1.2
 wl:∀(i:Nat) (e:PQ),L[i]? =some e→e.2.length≤i
theorem f0k{good:Int×Int→Bool}{succ:Int×Int→List (Sy×(Int×Int))}{f n:Nat}{L:List PQ}(h:L[n]? =none):Pr good succ f n L=(none,L):=by
 cases f with
 |zero=>rw[Pr]
 |succ f=>rw[Pr,h]
theorem j04{good:Int×Int→Bool}{succ:Int×Int→List (Sy×(Int×Int))}{f n:Nat}{L:List PQ}{s:Int×Int}{w:List Sy}(h:L[n]? =some (s,w)):Pr good succ (f+1) n L=if good s=true then(some w,L)else Pr good succ f (n+1) (Eh L w (succ s)):=by rw[Pr,h]
theorem w04(L:List PQ)(w:List Sy):Eh L w ([]:List (Sy×(Int×Int)))=L:=rfl
def k1m(r:Option (List Sy)):AV:= .tup [LSy (r.getD []),.bool r.isSome]
theorem z05{a b:Aut}(ha:OkA a)(hb:OkA b)(ht:b.types=a.types){x:Sy}(hx:x∈W5 a b):Ed a x:=by have:=(Pe ha hb ht (0,0)).mem (x,Tv a b (0,0) x) (zM.2 ⟨x,hx,rfl⟩);exact this.1
theorem B3{a b:Aut}(ha:OkA a)(hb:OkA b)(ht:b.types=a.types):(W5 a b).length≤40000000:=by obtain⟨z1,z6⟩:=j0u ha hb ht;have:=(Yv (T:=a.types.toNat) (by have:=ha.types;omega) (by have:=ha.types;omega) z1 z6).1;unfold W5;simpa using this
attribute [local irreducible] W5 toL Pr Eh Vj w20 Lt Dx
end Go.Abs
namespace Go.Abs
open Go Go.Proofs Go.Maps Go.RowKit
instance inS_dec (a:Aut) (s:Int):Decidable (inS a s):=by unfold inS;exact inferInstance
def v2s(a:Aut)(p q:Int):Option (List Sy)×Int:=if Ix a≠0 then(none,Ix a)else if inS a p∧inS a q then((Dx a a p q).1,0)else(none,6)
def x25(r:Option (List Sy)×Int):AV:= .tup [LSy (r.1.getD []),.bool r.1.isSome,.i r.2]
attribute [local irreducible] Ix Dx
abbrev x2p (l:List Nat):List Int:=l.map fun x:Nat=>(x:Int)
attribute [local irreducible] eqS x2x
def v2p(a:Aut):List Int×Int:=if Ix a≠0 then([],Ix a)else(x2p (clA a),0)
end Go.Abs
namespace Go.Abs
theorem Cj{a b:Aut}(ha:Dfa a)(hb:OkA b)(ht:b.types=a.types){w:List Sy}(hw:∀z∈w,Ed a z)(h1:Yj b w=true)(h2:Yj a w=false):∃v:List Sy,v.length+1≤b.fin.length * (a.fin.length+1)∧(∀z∈v,Ed a z)∧Yj b v=true∧Yj a v=false:=by
 have hz:inS b 0:=⟨yJ _,by have:=hb.fin;omega⟩
 have z1:∀v,Yj b v=true↔c0w b 0 v:=fun v=>by unfold Yj;rw[Xp];simp
 have hst:∀l∈(Wp a.fin.length).map (fun i=>[i]),∀x,Ed a x→Q6 a l x=[]∨Q6 a l x∈(Wp a.fin.length).map (fun i=>[i]):=fun l hl x hx=>by obtain⟨i,hi,rfl⟩:=zM.1 hl;obtain⟨h3,h4⟩:=ha.next (W1.1 hi) hx;rw[h4];exact .inr (zM.2 ⟨_,W1.2 h3,rfl⟩)
 obtain⟨k,_,hk⟩:=g1o (a:=a) (b:=b) (s:=(0,[0])) w.length ⟨w,rfl,hw,(z1 w).1 h1,h2⟩;have z6:=w1v hst (b:=b) (s:=(0,[0])) ⟨hz,.inr (zM.2 ⟨0,W1.2 ha.zero,rfl⟩)⟩ hk;obtain⟨⟨v,hv,z7,v1,v2⟩,_⟩:=hk;have hl:((Wp a.fin.length).map fun i=>[i]).length=a.fin.length:=by simp[Wp]
 rw[hl]at z6;exact⟨v,by rw[hv];exact z6,z7,(z1 v).2 v1,v2⟩
theorem v1k{a b:Aut}(ha:Dfa a)(hb:Dfa b)(ht:b.types=a.types)(z1:a.fin.length≤8)(z6:b.fin.length≤8){w:List Sy}(h:FirstP (Ed a) (wnd neB a b) w):w.length≤4096:=by
 have hh:=h.hit;unfold wnd neB at hh;cases h1:Yj a w with
 |true=>
  cases h2:Yj b w with
  |true=>rw[h1,h2]at hh;cases hh
  |false=>obtain⟨v,v1,v2,v3,v4⟩:=Cj hb ha.ok ht.symm (fun z hz=>(R8 ht).2 (h.okw z hz)) h1 h2;have:=g0p (h.least v (fun z hz=>(R8 ht).1 (v2 z hz)) (by unfold wnd neB;rw[v3,v4];rfl));have:=vM z1 (show b.fin.length+1≤9 by omega);omega
 |false=>
  cases h2:Yj b w with
  |false=>rw[h1,h2]at hh;cases hh
  |true=>obtain⟨v,v1,v2,v3,v4⟩:=Cj ha hb.ok ht h.okw h2 h1;have:=g0p (h.least v v2 (by unfold wnd neB;rw[v3,v4];rfl));have:=vM z6 (show a.fin.length+1≤9 by omega);omega
structure EqC where
 verdict:Int
 pairs:List (Int×Int)
 word:List Sy
def k1j:EqC:=⟨0,[],[]⟩
def E8(a b:Aut):Int:=if Wx a≠0 then Wx a else if Wx b≠0 then Wx b else if a.types≠b.types then 15 else 0
def Ts(a b:Aut):Int:=if E8 a b≠0 then E8 a b else if Ix a≠0∨Ix b≠0 then 3 else 0
def w0o(a b:Aut):EqC×Int:=if Ts a b≠0 then(k1j,Ts a b)else match (H6 a b neB).1 with
 |some w=>(⟨2,[],w⟩,0)
 |none=>if 2048<(Yd a b).length then(k1j,5)else(⟨1,Tz (Yd a b),[]⟩,0)
def inQ(a b:Aut)(s:Int×Int):Bool:=decide (inS a s.1∧inS b s.2)
instance (a:Aut) (s:Int):Decidable (inS a s):=inferInstanceAs (Decidable (0≤s∧s<(a.fin.length:Int)))
def Pf(a b:Aut)(x:EqC):Int:=if x.verdict≠1∧x.verdict≠2 then 1 else if(x.verdict=1∧0<x.word.length)∨(x.verdict=2∧0<x.pairs.length)then 3
 else if 2048<x.pairs.length∨4096<x.word.length then 5 else if x.pairs.all (fun s=>decide (inS a s.1∧inS b s.2))=false then 6 else V6 a.types x.word
def y0z(a b:Aut)(x:EqC):Int:=if Ts a b≠0 then Ts a b else if Pf a b x≠0 then Pf a b x else if(if x.verdict=1 then Jl a b x.pairs else Yj a x.word != Yj b x.word)=true then 0 else 18
def Rn(a b:Aut):Int:=if E8 a b≠0 then E8 a b else if(Ro a).1≠0 then(Ro a).1 else(Ro b).1
def j12(a b:Aut):(List Sy×Bool)×Int:=if Rn a b≠0 then(([],false),Rn a b)else match (H6 (Ro a).2 (Ro b).2 x1z).1 with
 |some w=>((w,false),0)
 |none=>(([],true),0)
def d03(a b:Aut):(List Sy×Bool)×Int:=if Rn a b≠0 then(([],false),Rn a b)else match (H6 (Ro a).2 (Ro b).2 neB).1 with
 |some w=>((w,true),0)
 |none=>(([],false),0)
theorem T1{a b:Aut}:E8 a b=0↔OkA a∧OkA b∧b.types=a.types:=by
 unfold E8;by_cases h1:Wx a≠0
 ·rw[if_pos h1];exact⟨fun h=>absurd h h1,fun h=>absurd ((U7 a).2 h.1) h1⟩
 rw[if_neg h1];by_cases h2:Wx b≠0
 ·rw[if_pos h2];exact⟨fun h=>absurd h h2,fun h=>absurd ((U7 b).2 h.2.1) h2⟩
 rw[if_neg h2];by_cases h3:a.types≠b.types
 ·rw[if_pos h3];exact⟨fun h=>(by cases h),fun h=>absurd h.2.2.symm h3⟩
 rw[if_neg h3];exact⟨fun _=>⟨(U7 a).1 (Decidable.not_not.1 h1),(U7 b).1 (Decidable.not_not.1 h2),(Decidable.not_not.1 h3).symm⟩,fun _=>rfl⟩
theorem It{a b:Aut}:Ts a b=0↔Dfa a∧Dfa b∧b.types=a.types:=by
 unfold Ts;by_cases h1:E8 a b≠0
 ·rw[if_pos h1];exact⟨fun h=>absurd h h1,fun h=>absurd (T1.2 ⟨h.1.ok,h.2.1.ok,h.2.2⟩) h1⟩
 rw[if_neg h1];have hb:=T1.1 (Decidable.not_not.1 h1);by_cases h2:Ix a≠0∨Ix b≠0
 ·rw[if_pos h2];exact⟨fun h=>(by cases h),fun h=>h2.elim (fun k=>absurd ((Uo a).2 h.1) k) (fun k=>absurd ((Uo b).2 h.2.1) k)⟩
 rw[if_neg h2];exact⟨fun _=>⟨(Uo a).1 (Decidable.not_not.1 fun k=>h2 (.inl k)),(Uo b).1 (Decidable.not_not.1 fun k=>h2 (.inr k)),hb.2.2⟩,fun _=>rfl⟩
theorem c03{a b:Aut}(ha:Dta a)(hb:Dta b)(ht:b.types=a.types){wn:Bool→Bool→Bool}{w:List Sy}(h:(H6 a b wn).1=some w):FirstP (Ed a) (wnd wn a b) w:=by
 rcases Yc ha hb ht wn with⟨v,L,h1,h2⟩|⟨L,h1,_⟩
 ·rw[h1]at h;obtain rfl:=Option.some.inj h;exact h2
 ·rw[h1]at h;cases h
theorem y1d{a b:Aut}(ha:Dfa a)(hb:Dfa b)(ht:b.types=a.types)(hn:(H6 a b neB).1=none):(Yd a b).length≤a.fin.length * b.fin.length∧∀s∈Yd a b,inS a s.1∧inS b s.2:=by
 obtain⟨h1,_,h3⟩:=F5 ⟨ha.ok,ha.det⟩ ⟨hb.ok,hb.det⟩ ht hn;have z1:∀s∈Yd a b,inS a s.1∧inS b s.2:=fun s hs=>by
  obtain⟨v,hv,e⟩:=(h3 s).1 hs;rw[Y8]at e;rw[←e];have st:∀ {c:Aut},Dfa c→∀(w:List Sy) (s:Int),inS c s→(∀x∈w,Ed c x)→inS c (stF c s w):=fun {c} hc w=>by
   induction w with
   |nil=>intro s hs _;exact hs
   |cons x w ih=>intro s hs hw;exact ih _ (hc.next hs (hw x (by simp))).1 fun y hy=>hw y (by simp[hy])
  exact⟨st ha v 0 ha.zero hv,st hb v 0 hb.zero fun x hx=>(R8 ht).2 (hv x hx)⟩
 refine⟨?_,z1⟩;rw[←Vn];exact I9 _ _ h1 fun s hs=>Ca (z1 s hs).1 (z1 s hs).2
theorem g0k{a b:Aut}(hf:Ts a b=0)(z1:a.fin.length≤8)(z6:b.fin.length≤8):(w0o a b).2=0∧y0z a b (w0o a b).1=0∧(((w0o a b).1.verdict=1∧∀w,(∀x∈w,Ed a x)→Yj a w=Yj b w)∨((w0o a b).1.verdict=2∧∃w,(∀x∈w,Ed a x)∧Yj a w≠Yj b w)):=by
 obtain⟨ha,hb,ht⟩:=It.1 hf;have da:Dta a:=⟨ha.ok,ha.det⟩
 have db:Dta b:=⟨hb.ok,hb.det⟩
 unfold w0o;rw[if_neg (fun k=>k hf)];cases hs:(H6 a b neB).1 with
 |some w=>
  have hw:=c03 da db ht hs;have hl:=v1k ha hb ht z1 z6 hw;have z7:(Yj a w != Yj b w)=true:=hw.hit;refine⟨rfl,?_,.inr ⟨rfl,w,hw.okw,by simpa using z7⟩⟩;have hp:Pf a b ⟨2,[],w⟩=0:=by unfold Pf;rw[if_neg (by simp),if_neg (by simp),if_neg (by simp;omega),if_neg (by simp)];exact(Zo w).2 fun x hx=>(Fj _ _).2 (hw.okw x hx)
  unfold y0z;rw[if_neg (fun k=>k hf),if_neg (fun k=>k hp)];simp only;rw[if_neg (by decide:¬(2:Int)=1),if_pos z7]
 |none=>
  obtain⟨hl,z8⟩:=y1d ha hb ht hs;have:=vM z1 z6;simp only;rw[if_neg (by omega)];refine⟨rfl,?_,.inl ⟨rfl,y0h ha hb ht (Cv ha hb ht hs)⟩⟩;have za:(Tz (Yd a b)).length=(Yd a b).length:=(wJ _ _).length_eq;have hp:Pf a b ⟨1,Tz (Yd a b),[]⟩=0:=by
   unfold Pf;rw[if_neg (by simp),if_neg (by simp),if_neg (by simp;omega),if_neg]
   ·rfl
   ·simp only[t8];rw[zP];intro s hm;exact decide_eq_true (z8 s (Tr.1 hm))
  unfold y0z;rw[if_neg (fun k=>k hf),if_neg (fun k=>k hp)];simp only;rw[if_pos trivial,if_pos (Cv ha hb ht hs)]
end Go.Abs
namespace Go.Abs
section
variable {a b:Aut}
theorem Pu(hb:E8 a b=0):Rn a b=0↔(Ro a).1=0∧(Ro b).1=0:=by
 unfold Rn;rw[if_neg (fun k=>k hb)];by_cases h:(Ro a).1≠0
 ·rw[if_pos h];exact⟨fun k=>absurd k h,fun k=>absurd k.1 h⟩
 ·rw[if_neg h];exact⟨fun k=>⟨Decidable.not_not.1 h,k⟩,fun k=>k.2⟩
theorem Ol{a:Aut}(h:(Ro a).1=0):Ro a=(0,(Ro a).2):=tI h rfl
structure IncW (a b:Aut) (n:Nat) (w:List Sy):Prop where
 okw:∀z∈w,Ed a z
 len:w.length≤4096
 yes:Yj b w=true
 no:Yj a w=false
 far:n≤w.length
end
end Go.Abs
namespace Go.Abs
theorem j0t{a b:Aut}(hf:Ts a b=0){l:List (Int×Int)}(hl:l.length≤2048)(z1:∀s∈l,inS a s.1∧inS b s.2):y0z a b ⟨1,l,[]⟩=if Jl a b l=true then 0 else 18:=by
 have hp:Pf a b ⟨1,l,[]⟩=0:=by
  unfold Pf;rw[if_neg (by simp),if_neg (by simp),if_neg (by simp;omega),if_neg]
  ·rfl
  ·simp only[t8];rw[zP];exact fun s hm=>decide_eq_true (z1 s hm)
 unfold y0z;rw[if_neg (fun k=>k hf),if_neg (fun k=>k hp)];simp only;rw[if_pos trivial]
def v2q(a b:Aut):List (Int×Int):=(Wp a.fin.length).flatMap fun i=>(Wp b.fin.length).map fun j=>(i,j)
end Go.Abs
namespace Go.Abs
def y2f:Prd:=[[⟨-1099511627776,1099511627776⟩]]
def w2e:Prd:=[[⟨-1099511627776,4⟩]]
def k11:Prd:=[[⟨5,1099511627776⟩]]
def exQ:Aut:=⟨1,[false,true],[⟨0,1,y2f⟩,⟨1,0,y2f⟩]⟩
def exR:Aut:=⟨1,[false,true],[⟨0,1,w2e⟩,⟨0,0,k11⟩,⟨1,0,w2e⟩,⟨1,1,k11⟩]⟩
theorem w28:Ix exQ=0:=by decide+kernel
theorem z2i:Ix exR=0:=by decide+kernel
theorem Sa:Dfa exQ:=(Uo _).1 w28
theorem f00:Dfa exR:=(Uo _).1 z2i
theorem q2o:Wx exQ=0:=by decide+kernel
theorem q2w:Wx exR=0:=by decide+kernel
theorem d0f:Ts exQ exR=0:=It.2 ⟨Sa,f00,rfl⟩
theorem Zk:Ts exQ exQ=0:=It.2 ⟨Sa,Sa,rfl⟩
theorem k0b:(Dx exQ exR 0 0).1=some [⟨0,5⟩]:=by kernel_rfl
theorem w11:(Dx exQ exQ 0 0).1=none:=by kernel_rfl
theorem f1a:(k01 exQ exR x1z).1=some [⟨0,-1099511627776⟩,⟨0,5⟩]:=by kernel_rfl
theorem j1q:X5 exQ exQ=[(0,0),(1,1)]:=by kernel_rfl
theorem u1t:Jl exQ exQ [(0,0)]=false:=by kernel_rfl
def xqC:List Prd:=[y2f]
def xrC:List Prd:=[w2e,k11]
def xqQ:List (List Int):=[[0],[1]]
theorem c0d:(Gp exQ.types (onA exQ)).1=0∧(Gp exQ.types (onA exQ)).2=xqC:=by decide+kernel
theorem c0k:(Gp exR.types (onA exR)).1=0∧(Gp exR.types (onA exR)).2=xrC:=by decide+kernel
theorem y1o:Dw exQ xqC=some xqQ:=by decide+kernel
theorem w1j:Dw exR xrC=some xqQ:=by decide+kernel
theorem y1t:Y0 exQ xqC xqQ=exQ:=by kernel_rfl
theorem w1u:Y0 exR xrC xqQ=exR:=by kernel_rfl
theorem v1w:Z6 exQ=false:=by decide+kernel
theorem u15:Z6 exR=false:=by decide+kernel
theorem x1p{a d:Aut}{C:List Prd}{Q:List (List Int)}(hk:Wx a=0)(hm:(Gp a.types (onA a)).1=0∧(Gp a.types (onA a)).2=C)(hs:Dw a C=some Q)(hd:Y0 a C Q=d)(hb:Z6 d=false):Ro a=(0,d):=by
 have z6:Rs a.types (onA a)=(0,C):=by rw[←By];exact tI hm.1 hm.2
 have z1:Ux a=(0,C,Q):=by
  rw[Ux,if_neg (fun k=>k hk),z6];rw[if_neg (by simp)];split
  ·rename_i h;have h2:Dw a C=none:=h;rw[hs]at h2;cases h2
  ·rename_i R h;have h2:Dw a C=some R:=h;rw[hs]at h2;rw[←Option.some.inj h2]
 rw[Ro,z1,if_neg (by simp)];show x08 (Y0 a C Q)=_;rw[hd,q0f,hb];rfl
theorem La:Ro exQ=(0,exQ):=x1p q2o c0d y1o y1t v1w
theorem Le:Ro exR=(0,exR):=x1p q2w c0k w1j w1u u15
theorem k1k:E8 exQ exR=0:=T1.2 ⟨Sa.ok,f00.ok,rfl⟩
theorem k0e:Rn exQ exR=0:=(Pu k1k).2 ⟨by rw[La],by rw[Le]⟩
theorem x1b:w0o exQ exR=(⟨2,[],[⟨0,5⟩]⟩,0):=by rw[w0o,if_neg (fun k=>k d0f),←Sg Sa f00 rfl,k0b]
theorem j0q:(H6 exQ exQ neB).1=none:=by rw[←Sg Sa Sa rfl,w11]
theorem v0l:Tz (Yd exQ exQ)=[(0,0),(1,1)]:=by obtain⟨h1,h2,h3⟩:=F5 ⟨Sa.ok,Sa.det⟩ ⟨Sa.ok,Sa.det⟩ rfl j0q;rw[h2,j1q];exact S9 (Fi (by decide)) (by simp[pLt]) fun s=>Tr
theorem k0u:w0o exQ exQ=(⟨1,[(0,0),(1,1)],[]⟩,0):=by
 have hl:(Yd exQ exQ).length=2:=by rw[←(wJ (Yd exQ exQ) pLe).length_eq];show(Tz (Yd exQ exQ)).length=2;rw[v0l];rfl
 rw[w0o,if_neg (fun k=>k Zk),j0q];simp only;rw[if_neg (by omega),v0l]
theorem f1l:d03 exQ exR=(([⟨0,5⟩],true),0):=by rw[d03,if_neg (fun k=>k k0e),La,Le,←Sg Sa f00 rfl,k0b]
theorem u14:j12 exQ exR=(([⟨0,-1099511627776⟩,⟨0,5⟩],false),0):=by rw[j12,if_neg (fun k=>k k0e)];have:=Kd Sa.ok f00.ok rfl La Le x1z;rw[La,Le,←this,f1a]
theorem v1s:y0z exQ exR ⟨2,[],[⟨0,5⟩]⟩=0:=by have:=(g0k d0f (by decide) (by decide)).2.1;rw[x1b]at this;exact this
theorem u1o:y0z exQ exQ ⟨1,[(0,0),(1,1)],[]⟩=0:=by have:=(g0k Zk (by decide) (by decide)).2.1;rw[k0u]at this;exact this
theorem j1k:y0z exQ exQ ⟨1,[(0,0)],[]⟩=18:=by rw[j0t Zk (by decide) (fun s hs=>by rw[zJ]at hs;subst hs;decide),u1t];rfl
end Go.Abs
namespace Go.Abs
end Go.Abs
namespace Go.Abs
end Go.Abs
namespace Go.Abs
def x07:List Iv→Int→Option Int
 |[],_=>none
 |x::l,n=>if n≤x.hi then some (max x.lo n)else x07 l n
def q09:List Iv→Int→Int
 |[],n=>n
 |x::l,n=>q09 l (if x.lo≤n∧n≤x.hi then x.hi+1 else n)
def f0s:List (List Iv)→Int→Option Int
 |[],n=>some n
 |l::I,n=>match x07 l n with|some m=>f0s I m|none=>none
def u00:List (List Iv)→Int→Int
 |[],n=>n
 |l::O,n=>u00 O (q09 l n)
theorem w0a:∀(l:List Iv) (n:Int),Sep l→match x07 l n with|some m=>M l m∧n≤m∧∀k,M l k→n≤k→m≤k|none=>∀k,M l k→k<n
 |[],n,_=>fun k h=>absurd h u0g
 |x::l,n,h=>by
  have hx:=h.1 x (by simp);have sx:=f1w h;rw[x07];by_cases h1:n≤x.hi
  ·rw[if_pos h1];refine⟨Us.2 (.inl (by omega)),by omega,fun k hk hn=> ?_⟩;rcases Us.1 hk with k1|k1
   ·omega
   ·have:=sx k k1;omega
  ·rw[if_neg h1];have ih:=w0a l n (z1u h);cases hc:x07 l n with
   |some m=>
    rw[hc]at ih;obtain⟨i1,i2,i3⟩:=ih;refine⟨Us.2 (.inr i1),i2,fun k hk hn=> ?_⟩;rcases Us.1 hk with k1|k1
    ·omega
    ·exact i3 k k1 hn
   |none=>
    rw[hc]at ih;intro k hk;rcases Us.1 hk with k1|k1
    ·omega
    ·exact ih k k1
theorem Li:∀(l:List Iv) (n:Int),n≤q09 l n∧(∀k,n≤k→¬M l k→q09 l n≤k)∧(q09 l n=n→¬M l n)
 |[],n=>⟨yJ _,fun k h _=>h,fun _=>u0g⟩
 |x::l,n=>by
  rw[q09];by_cases h:x.lo≤n∧n≤x.hi
  ·rw[if_pos h];obtain⟨i1,i2,i3⟩:=Li l (x.hi+1);refine⟨by omega,fun k hk hn=>i2 k ?_ (fun hm=>hn (Us.2 (.inr hm))),fun e=>by omega⟩;have:¬(x.lo≤k∧k≤x.hi):=fun hm=>hn (Us.2 (.inl hm));omega
  ·rw[if_neg h];obtain⟨i1,i2,i3⟩:=Li l n;exact⟨i1,fun k hk hn=>i2 k hk fun hm=>hn (Us.2 (.inr hm)),fun e hm=>(Us.1 hm).elim h (i3 e)⟩
theorem w0e:∀(I:List (List Iv)) (n:Int),(∀l∈I,Sep l)→match f0s I n with|some m=>n≤m∧(∀k,n≤k→(∀l∈I,M l k)→m≤k)∧(m=n→∀l∈I,M l n)|none=>∀k,n≤k→¬ ∀l∈I,M l k
 |[],n,_=>⟨yJ _,fun k h _=>h,fun _ l h=>by cases h⟩
 |l::I,n,h=>by
  have h1:=w0a l n (h l (by simp));rw[f0s];cases hc:x07 l n with
  |none=>rw[hc]at h1;intro k hk hm;have:=h1 k (hm l (by simp));omega
  |some m=>
   rw[hc]at h1;obtain⟨a1,a2,a3⟩:=h1;have ih:=w0e I m fun l hl=>h l (by simp[hl]);simp only;cases hd:f0s I m with
   |none=>rw[hd]at ih;intro k hk hm;exact ih k (a3 k (hm l (by simp)) hk) fun j hj=>hm j (by simp[hj])
   |some m'=>
    rw[hd]at ih;obtain⟨b1,b2,b3⟩:=ih;refine⟨by omega,fun k hk hm=>b2 k (a3 k (hm l (by simp)) hk) fun j hj=>hm j (by simp[hj]),fun e j hj=> ?_⟩;have e1:m=n:=by omega
    rcases zU.1 hj with rfl|hj
    ·rw[←e1];exact a1
    ·rw[←e1];exact b3 (by omega) j hj
theorem w0f:∀(O:List (List Iv)) (n:Int),n≤u00 O n∧(∀k,n≤k→(∀l∈O,¬M l k)→u00 O n≤k)∧(u00 O n=n→∀l∈O,¬M l n)
 |[],n=>⟨yJ _,fun k h _=>h,fun _ l h=>by cases h⟩
 |l::O,n=>by
  rw[u00];obtain⟨h1,h2,h3⟩:=Li l n;obtain⟨i1,i2,i3⟩:=w0f O (q09 l n);refine⟨by omega,fun k hk hm=>i2 k (h2 k hk (hm l (by simp))) fun j hj=>hm j (by simp[hj]),fun e j hj=> ?_⟩;have e1:q09 l n=n:=by omega
  rcases zU.1 hj with rfl|hj
  ·exact h3 e1
  ·have:=i3 (by rw[e,e1]) j hj;rw[e1]at this;exact this
def x15(I O:List (List Iv))(n:Int):Option Int:=match f0s I n with|some m=>some (u00 O m)|none=>none
def F8(I O:List (List Iv))(k:Int):Prop:=(∀l∈I,M l k)∧∀l∈O,¬M l k
theorem w1z(I O:List (List Iv))(n:Int)(h:∀l∈I,Sep l):match x15 I O n with|some m=>n≤m∧(∀k,n≤k→F8 I O k→m≤k)∧(m=n→F8 I O n)|none=>∀k,n≤k→¬F8 I O k:=by
 have h1:=w0e I n h;unfold x15;cases hc:f0s I n with
 |none=>rw[hc]at h1;exact fun k hk hg=>h1 k hk hg.1
 |some m=>
  rw[hc]at h1;obtain⟨a1,a2,a3⟩:=h1;obtain⟨b1,b2,b3⟩:=w0f O m;refine⟨by omega,fun k hk hg=>b2 k (a2 k hk hg.1) hg.2,fun e=> ?_⟩;have e1:m=n:=by omega
  refine⟨a3 e1,?_⟩;have:=b3 (by omega);rw[e1]at this;exact this
def A6(t:Nat)(ps:List Prd):List (List Iv):=ps.map fun p=>p.getD t []
structure FitP (T:Nat) (ins outs:List Prd) (P:Prd):Prop where
 wf:PWf T P
 mem:∀t n,PM P t n↔t<T∧inR n∧(∀p∈ins,PM p t n)∧∀p∈outs,¬PM p t n
theorem Ll{ins outs:List Prd}{t:Nat}{n:Int}:F8 (A6 t ins) (A6 t outs) n↔(∀p∈ins,PM p t n)∧∀p∈outs,¬PM p t n:=by
 unfold F8 A6;constructor
 ·rintro⟨h1,h2⟩;exact⟨fun p hp=>Ly.2 (h1 _ (zM.2 ⟨p,hp,rfl⟩)),fun p hp hm=>h2 _ (zM.2 ⟨p,hp,rfl⟩) (Ly.1 hm)⟩
 ·rintro⟨h1,h2⟩;refine⟨fun l hl=> ?_,fun l hl hm=> ?_⟩
  ·obtain⟨p,hp,rfl⟩:=zM.1 hl;exact Ly.1 (h1 p hp)
  ·obtain⟨p,hp,rfl⟩:=zM.1 hl;exact h2 p hp (Ly.2 hm)
def Xa(P:Prd):Option Sy:=if W2 P then none else some (Qv P)
theorem FitP.some{T:Nat}{ins outs:List Prd}{P:Prd}(h:FitP T ins outs P){t:Nat}{n:Int}(ht:t<T)(hb:∀t',t'<t→∀k,¬PM P t' k)(hn:inR n)(hg:F8 (A6 t ins) (A6 t outs) n)(hl:∀k,inR k→F8 (A6 t ins) (A6 t outs) k→n≤k):Xa P= .some ⟨t,n⟩:=by
 have hm:PM P t n:=(h.mem t n).2 ⟨ht,hn,Ll.1 hg⟩;obtain⟨g1,g2,g3⟩:=Ha h.wf ⟨t,n,hm⟩;unfold Xa;rw[if_neg (by rw[(Nl h.wf).2 ⟨t,n,hm⟩];simp)]
 congr 1
 rcases g3 ⟨t,n⟩ ⟨by simp,by simpa using ht,hn⟩ (by simpa using hm)with e|e
 ·exact e
 ·exfalso;have k:=(h.mem _ _).1 g2;rcases e with e|⟨e1,e2⟩
  ·simp only at e;exact hb _ (by have:=g1.1;omega) _ g2
  ·simp only at e1 e2;have e3:(Qv P).ty.toNat=t:=by omega
   rw[e3]at k;have:=hl _ k.2.1 (Ll.2 k.2.2);omega
theorem FitP.none{T:Nat}{ins outs:List Prd}{P:Prd}(h:FitP T ins outs P)(hb:∀t',t'<T→∀k,¬PM P t' k):Xa P= .none:=by unfold Xa;rw[if_pos ((Rh h.wf).2 fun t n hm=>hb t (h.wf.lt hm).1 n hm)]
theorem FitP.no{T:Nat}{ins outs:List Prd}{P:Prd}(h:FitP T ins outs P){t:Nat}(hb:∀k,inR k→¬F8 (A6 t ins) (A6 t outs) k)(k:Int):¬PM P t k:=fun hm=>by have:=(h.mem t k).1 hm;exact hb k this.2.1 (Ll.2 this.2.2)
end Go.Abs
namespace Go.Abs
def Jz:Option Mv→List Prd
 |some m=>[m.on]
 |none=>[]
def P6(a:Aut)(s:Int):Option Mv→List Prd
 |some _=>[]
 |none=>(mvS a s).map (·.on)
theorem B5{a:Aut}(h:OkA a){s:Int}{o:Option Mv}(ho:o∈Ws a s):FitP a.types.toNat (Jz o) (P6 a s o) (V9 a s o):=by
 have hw:=Zj h ho;refine⟨hw,fun t n=> ?_⟩;cases o with
 |some m=>
  constructor
  ·intro hm;exact⟨(hw.lt hm).1,(hw.lt hm).2,fun p hp=>by rw[zJ.1 hp];exact hm,fun p hp=>by cases hp⟩
  ·rintro⟨_,_,h1,_⟩;exact h1 m.on (zJ.2 rfl)
 |none=>
  unfold V9 P6 Jz;rw[Fc (Hu (F3 h s)),Jx (F3 h s)];constructor
  ·rintro⟨⟨h1,h2⟩,h3⟩;exact⟨h1,h2,fun p hp=>(by cases hp),fun p hp hm=>h3 ⟨p,hp,hm⟩⟩
  ·rintro⟨h1,h2,_,h3⟩;exact⟨⟨h1,h2⟩,fun⟨p,hp,hm⟩=>h3 p hp hm⟩
theorem j1e{a b:Aut}(ha:OkA a)(hb:OkA b)(ht:b.types=a.types){s:Int×Int}{o r:Option Mv}(ho:o∈Ws a s.1)(hr:r∈Ws b s.2):FitP a.types.toNat (Jz o++Jz r) (P6 a s.1 o++P6 b s.2 r) (Nj a b s o r):=by
 have f1:=B5 ha ho;have f2:=B5 hb hr;rw[ht]at f2;refine⟨Uq f1.wf f2.wf.1,fun t n=> ?_⟩;unfold Nj;rw[Ry f1.wf.1 f2.wf.1,f1.mem,f2.mem];constructor
 ·rintro⟨⟨h1,h2,h3,h4⟩,_,_,h5,h6⟩;exact⟨h1,h2,fun p hp=>(zO.1 hp).elim (h3 p) (h5 p),fun p hp=>(zO.1 hp).elim (h4 p) (h6 p)⟩
 ·rintro⟨h1,h2,h3,h4⟩;exact⟨⟨h1,h2,fun p hp=>h3 p (xC _ hp),fun p hp=>h4 p (xC _ hp)⟩,h1,h2,fun p hp=>h3 p (vA _ hp),fun p hp=>h4 p (vA _ hp)⟩
theorem q1n(a b:Aut)(s:Int×Int)(o r:Option Mv):w1g a b s o r=(Xa (Nj a b s o r)).map fun x=>(x,(A4 o,A4 r)):=by
 unfold w1g Xa;by_cases h:W2 (Nj a b s o r)=true
 ·rw[if_pos h,if_pos h];rfl
 ·rw[if_neg h,if_neg h];rfl
def Vq(a:Aut)(s:Int):Bool:=(Xa (V9 a s none)).isSome
def Jg(a:Aut):Bool:=V2 a && (Wp a.fin.length).all fun s=> !Vq a s
theorem q0i{a:Aut}(h:OkA a)(s:Int):Vq a s=false↔∀x,Ed a x→∃m∈mvS a s,Rp m.on x=true:=by
 have hw:=Zj h (s:=s) (Uv.2 (.inl rfl));unfold Vq Xa;constructor
 ·intro hl x hx;have hv:W2 (V9 a s none)=true:=by
   by_cases hv:W2 (V9 a s none)=true
   ·exact hv
   ·rw[if_neg hv]at hl;cases hl
  have h1:=(Rh hw).1 hv x.ty.toNat x.num;have h2:¬ ∀m∈mvS a s,Rp m.on x=false:=fun k=>h1 ((Iy h s hx).2 k);simpa using h2
 ·intro z1;rw[if_pos]
  ·rfl
  ·refine(Rh hw).2 fun t n hm=> ?_;have z6:=hw.lt hm;have hx:Ed a ⟨t,n⟩:=Ip.1 ⟨by simp,by simpa using z6.1,z6.2⟩;obtain⟨m,h1,h2⟩:=z1 _ hx;have:=(Iy h s hx).1 (by unfold v0a;simpa using hm) m h1;rw[h2]at this;cases this
theorem g01{a:Aut}(h:OkA a):Jg a=true↔Dfa a:=by
 unfold Jg;rw[Bool.and_eq_true,zP];constructor
 ·rintro⟨h1,h2⟩;refine⟨h,(Me h.wfA).1 h1,fun s s0 s1 x hx=> ?_⟩;obtain⟨m,k1,k2⟩:=(q0i h s).1 (by have:=h2 s (W1.2 ⟨s0,s1⟩);simpa using this) x hx;exact⟨m,(Rz.1 k1).1,(Rz.1 k1).2,k2⟩
 ·intro hd;refine⟨(Me h.wfA).2 hd.det,fun s hs=> ?_⟩;have hs:=W1.1 hs;have:=(q0i h s).2 fun x hx=>by obtain⟨m,k1,k2,k3⟩:=hd.full s hs.1 hs.2 x hx;exact⟨m,Rz.2 ⟨k1,k2⟩,k3⟩
  rw[this];rfl
theorem x0m(a b:Aut):Ts a b=if E8 a b≠0 then E8 a b else if Jg a=false∨Jg b=false then 3 else 0:=by
 unfold Ts;by_cases h1:E8 a b≠0
 ·rw[if_pos h1,if_pos h1]
 rw[if_neg h1,if_neg h1];obtain⟨ha,hb,_⟩:=T1.1 (Decidable.not_not.1 h1);have e:∀ {c:Aut},OkA c→(Jg c=false↔Ix c≠0):=fun {c} hc=>by rw[←Bool.not_eq_true,g01 hc,←Uo]
 by_cases h2:Ix a≠0∨Ix b≠0
 ·rw[if_pos h2,if_pos (h2.imp (e ha).2 (e hb).2)]
 ·rw[if_neg h2,if_neg (fun k=>h2 (k.imp (e ha).1 (e hb).1))]
end Go.Abs
namespace Go.Abs
structure Vst where
 s:Int×Int
 fr:Nat
 on:Sy
 fst:Bool
structure VOk (V:List Vst) (L:List ((Int×Int)×List Sy)):Prop where
 len:V.length=L.length
 key:∀(i:Nat) (v:Vst) (e:(Int×Int)×List Sy),V[i]? =some v→L[i]? =some e→v.s=e.1
 way:∀(i:Nat) (v:Vst) (e:(Int×Int)×List Sy),V[i]? =some v→L[i]? =some e→(v.fst=true∧e.2=[])∨(v.fst=false∧v.fr<i∧∃e',L[v.fr]? =some e'∧e.2=e'.2++[v.on])
theorem VOk.start:VOk [⟨(0,0),0,⟨0,0⟩,true⟩] [((0,0),[])]:=by
 refine⟨rfl,fun i v e hv he=> ?_,fun i v e hv he=> ?_⟩
 ·have hi:i=0:=by have:=(zA.1 hv).1;simp at this;omega
  subst hi;simp at hv he;rw[←hv,←he]
 ·have hi:i=0:=by have:=(zA.1 hv).1;simp at this;omega
  subst hi;simp at hv he;rw[←hv,←he];exact .inl ⟨rfl,rfl⟩
theorem VOk.push{V:List Vst}{L:List ((Int×Int)×List Sy)}(h:VOk V L){n:Nat}{e:(Int×Int)×List Sy}(hn:L[n]? =some e)(t:Int×Int)(x:Sy):VOk (V++[⟨t,n,x,false⟩]) (L++[(t,e.2++[x])]):=by
 have z6:=(zA.1 hn).1;have hl:=h.len;refine⟨by simp[hl],fun i v d hv hd=> ?_,fun i v d hv hd=> ?_⟩
 ·by_cases hi:i<L.length
  ·rw[zE (by omega)]at hv hd;exact h.key i v d hv hd
  ·have z1:i=L.length:=by have:=(zA.1 hd).1;simp at this;omega
   rw[zC (by omega),z1]at hv hd;simp[hl]at hv hd;rw[←hv,←hd]
 ·by_cases hi:i<L.length
  ·rw[zE (by omega)]at hv hd;rcases h.way i v d hv hd with k|⟨k1,k2,e',k3,k4⟩
   ·exact .inl k
   ·exact .inr ⟨k1,k2,e',by rw[zE (by omega)];exact k3,k4⟩
  ·have z1:i=L.length:=by have:=(zA.1 hd).1;simp at this;omega
   rw[zC (by omega),z1]at hv hd;simp[hl]at hv hd;rw[←hv,←hd];exact .inr ⟨rfl,by simp;omega,e,by rw[zE z6];exact hn,rfl⟩
theorem VOk.pairs{V:List Vst}{L:List ((Int×Int)×List Sy)}(h:VOk V L):V.map (·.s)=L.map (·.1):=by
 refine xQ (by simp[h.len]) fun i h1 h2=> ?_;have hl:i<L.length:=by simpa using h2
 have hv:i<V.length:=by rw[h.len];exact hl
 simp only[List.getElem_map];exact h.key i _ _ (zD hv) (zD hl)
structure DInv (a b:Aut) (L:List ((Int×Int)×List Sy)):Prop where
 nd:(L.map (·.1)).Nodup
 rng:∀e∈L,inD a e.1.1∧inD b e.1.2
theorem DInv.len{a b:Aut}{L:List ((Int×Int)×List Sy)}(h:DInv a b L):L.length≤(a.fin.length+1) * (b.fin.length+1):=by
 have e:L.length=(L.map (·.1)).length:=by rw[zV]
 rw[←Hg,e];refine I9 _ _ h.nd fun x hx=> ?_;obtain⟨e,he,rfl⟩:=zM.1 hx;exact Fz (h.rng e he).1 (h.rng e he).2
theorem DInv.add{a b:Aut}{L:List ((Int×Int)×List Sy)}(h:DInv a b L){t:Int×Int}{w:List Sy}(ht:inD a t.1∧inD b t.2)(hn:t∉L.map (·.1)):DInv a b (L++[(t,w)]):=by
 refine⟨?_,fun e he=> ?_⟩
 ·rw[yG,List.nodup_append];refine⟨h.nd,by simp,fun x hx y hy e=> ?_⟩;simp only[yO,List.map_nil,zJ]at hy;exact hn (by rw[←hy,←e];exact hx)
 ·rcases zO.1 he with he|he
  ·exact h.rng e he
  ·rw[zJ.1 he];exact ht
theorem DInv.start{a b:Aut}(ha:OkA a)(hb:OkA b):DInv a b [((0,0),[])]:=by have:=ha.fin;have:=hb.fin;exact⟨by simp,fun e he=>by rw[zJ.1 he];exact⟨.inr ⟨yJ _,by simp only;omega⟩,.inr ⟨yJ _,by simp only;omega⟩⟩⟩
theorem v0t{a b:Aut}(ha:Dta a)(hb:Dta b)(ht:b.types=a.types){s:Int×Int}{e:Sy×(Int×Int)}(he:e∈Ui a b s):inD a e.2.1∧inD b e.2.2:=by obtain⟨_,h2⟩:=(Al ha hb ht s).mem e he;rw[h2];exact⟨Kx ha.ok _ _,Kx hb.ok _ _⟩
end Go.Abs
